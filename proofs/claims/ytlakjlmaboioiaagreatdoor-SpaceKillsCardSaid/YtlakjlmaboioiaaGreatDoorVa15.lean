/- What the laws of spaces share is proved. No condition. Part of a proof. -/
import Derived.Test.YtlakjlmaboioiaaGreatDoorVa14
import Derived.Great.Ranges
set_option maxHeartbeats 4000000
set_option linter.unusedVariables false
namespace Go.Proofs.YtlakjlmaboioiaaGreatDoor
open Go.RowKit Go.Proofs.Tryz
theorem Q8t {P:Program} {ops:Array Oper} {rest:List Oper} {o:Oper} {a:Act} {w:World} {Q:Exit->Act->World->Prop} (hg:o.guard=none) (t:TypeId) (ho:o.op=.build t #[]) (dst:Option Tmp) (GJ:o.dst=dst) (cells:Array Value)
  (hb:P.built t []=some cells)
  (h:wpList P ops Q rest (a.put dst (.agg cells)) w):wpList P ops Q (o::rest) a w:=by
 subst GJ;have e:(Array.map (fun (x:Nat×Operand)=>match x with|(i,x)=>(i,a.eval x)) #[]).toList=[]:=by simp
 refine wpList_build hg t #[] ho (by rw [e,hb];rfl) ?_;rw [e,hb];exact h
def tabZ:List Value:=(List.replicate 256 (noPl 0)).flatMap Pl.cells
theorem Z3i:prog.built 264 (([]:List (Nat×Value)))=some tabZ.toArray:=by kernel_rfl
theorem Z3j:(Value.agg tabZ.toArray).cells=tabZ.toArray:=by kernel_rfl
def J1A (H:HL) (w:World) (r:Ending) (w':World):Prop:=∃t,r=.returned (.pointer (some ⟨t,0,none⟩))/\Step H ((⟨t,List.replicate 256 (noPl 0)⟩:HT).hl++H) w w'
theorem Z8I {w:World} {H:HL} (h:Sep w H):Calls prog 63 #[] w (J1A H w):=by
 have HR:Hid (J1A H w (.returned (.pointer (some ⟨w.heap.size,0,none⟩))) (w.alloc (.cells tabZ.toArray 264))):=⟨_,rfl,h.new 264 tabZ⟩
 clear h;have hz:=Z3i;have hc:=Z3j;generalize tabZ.toArray=Z at *
 go_enter func63,ntmps63
 repeat (first|refine Q8t rfl 264 rfl _ rfl Z hz ?_|refine Go.Great.wpList_boxTo rfl 264 _ rfl _ rfl _ rfl Z hc ?_|go_step)
 first|exact HR.out|(go_ret;exact HR.out)
theorem Z6i (top k i:Nat):fre (uOf []) top k i=(k==top):=by
 have hc:∀k i,clr (uOf []) k i=true:=fun k i=>(clr_iff _ _ _).2 fun p _=>by simp [uOf]
 unfold fre;rw [hc,hc];simp
theorem Z1T (top:Nat):(∀k,k<top->fstG (fre (uOf []) top) top k 0=none)/\fstG (fre (uOf []) top) top top 0=some 0:=by
 refine⟨fun k hk=>Q5Y fun i _ hi=>?_,Q5X ?_ (J2h _) ?_ fun i h0 h1=>by omega⟩
 ·rw [J3S];have:i<2 ^ (top-k):=by simpa using hi
  rw [J3U this];show (fre (uOf []) top k i)≠true;rw [Z6i];simp;omega
 ·simp
 ·rw [J5y];show ((List.map _ [0])[0]?).getD false=true;show fre (uOf []) top top 0=true;rw [Z6i];simp
theorem Z6j {c:CA} {d:BD} {a:Nat} {ps':List Nat} (DY:c.pg=[]) (Gp:d.ps=[]) (h:J1q c d a ps'):a=64/\ps'=[0]:=by
 rcases h with ⟨k,x,i,hx,_⟩|⟨_,k0,i0,hk,hf,hp,ha,hq⟩
 ·rw [DY] at hx;simp at hx
 ·rw [Gp] at hf hp;obtain⟨f1,f2⟩:=Z1T d.top;have VJ:k0=d.top:=by
   rcases J4P k0 d.top with e|e
   ·rw [f1 k0 e] at hf;cases hf
   ·omega
  subst VJ;rw [f2] at hf;cases hf;rw [Gp] at hq;exact⟨by rw [ha];unfold addr;omega,by rw [hq];simp⟩
theorem Z0L {P:PL} {n:Nat} (Gp:P.d.ps=[]):¬NoRoom P n:=by
 rintro⟨c,hc,_,hn⟩;rw [Gp] at hn;have:=hn P.d.top (J2h _);rw [(Z1T P.d.top).2] at this;cases this
theorem Z8J {w:World} {P:PL} (h:Sep w P.hl) {top:Nat} {limit:Int} (hf:FreshP P top limit) (hl:P.cs.length=7) (h1:6<=top) (h0:64<=limit) (hm:limit<=1073741824) :
  Calls prog 65 #[.pointer (some ⟨P.p,0,none⟩),.int .i64 0,.int .i64 1] w fun r w'=>r=.returned (.tuple #[.int .i64 64,.int .i64 0])/\∃P',GotM P [] 0 1 64 P' []/\P'.d.ps=[0]/\(∃b,P'.q.E=[⟨0,b,⟨limit,64,0,-1,0⟩⟩])/\P'.q.next=1/\Step P.hl P'.hl w w':=by
 have ok:=hf.ok hl h1 (by omega) hm;have DY:=Z8n ok fun j=>Q7w hf j
 obtain⟨t,m,b,hq⟩:=hf.q;have Io:find P.q.E 0=some ⟨0,b,⟨limit,0,0,-1,0⟩⟩:=by rw [hq];rfl
 refine (Q5K h ok 0 1).mono ?_;rintro r w' (⟨h0,_⟩|⟨_,h0,_⟩|⟨_,⟨e',h2,h3⟩,_⟩|⟨n,e',hn,_,_,h2,_,hr⟩)
 ·exact absurd h0 (by decide)
 ·rw [Io] at h0;cases h0
 ·rw [Io] at h2;cases h2;have:((Q1i 1:Nat):Int)=64:=rfl;rw [this] at h3;simp at h3;omega
 ·have Dq:n=1:=by omega
  subst Dq;rcases hr with ⟨a,P',rfl,g,Ap⟩|⟨Ar,_⟩
  ·obtain⟨c,_,hc,_,ht⟩:=g.which;obtain⟨rfl,OI⟩:=Z6j (DY _ c hc.2) hf.ps ht.which;have gm:=g.gotM ok;obtain⟨LX,hE,BA,_⟩:=gm.acc (own:=0) Io;refine⟨rfl,P',gm,OI,⟨b,?_⟩,?_,Ap⟩
   ·rw [hE,hq];simp [Q2t,upd,costK,Q0c]
   ·rw [BA,hq];rfl
  ·exact absurd Ar (Z0L hf.ps)
structure Q9n (S:CO) (top:Nat) (limit:Int) (period:Nat):Prop where
 ok:S.Ok [] 1 0
 l:S.l=newL 64
 ts:S.ts=[]
 now:S.now=0
 period:S.period=period
 top:S.P.d.top=top
 next:S.P.q.next=1
 ps:S.P.d.ps=[0]
 q:∃b,S.P.q.E=[⟨0,b,⟨limit,64,0,-1,0⟩⟩]
 xc:S.xc=x0
 high:∀j,2<=j->S.P.usedOf j=[]
def Z6k (top:Nat) (limit:Int) (period:Nat) (H:HL) (w:World) (r:Ending) (w':World):Prop:=∃S:CO,r=.returned (.pointer (some ⟨S.c,0,none⟩))/\Q9n S top limit period/\Step H (S.hl++H) w w'
theorem J0H:LOk (List.replicate 256 (noPl 0)):=⟨J2r,fun p hp=>by rw [J2p hp];exact⟨J4j _,J4j _⟩⟩
theorem Z8K:Fst (List.replicate 256 (noPl 0)) 0 (noPl 0):=⟨rfl,rfl,fun j q h _=>by omega⟩
theorem Z6l {w w1 w2 w3:World} {H:HL} {P:PL} {top period:Nat} {limit:Int} {t g:Nat} (hf:FreshP P top limit) (hl:P.cs.length=7) (h1:6<=top) (h0:64<=limit) (hm:limit<=1073741824) (Bh:1<=period) (A8:period<=16)
  (s1:Step H (P.hl++H) w w1) (s2:Step (P.hl++H) ((⟨t,List.replicate 256 (noPl 0)⟩:HT).hl++(P.hl++H)) w1 w2) (s3:Step ((⟨t,List.replicate 256 (noPl 0)⟩:HT).hl++(P.hl++H)) (qhl g period 0 none []++((⟨t,List.replicate 256 (noPl 0)⟩:HT).hl++(P.hl++H))) w2 w3) :
  (w3.alloc (.cells #[.pointer (some ⟨P.p,0,none⟩),.pointer (some ⟨t,0,none⟩),.pointer (some ⟨g,0,none⟩)] 142)).cell? ⟨w3.heap.size,0,none⟩=some (.pointer (some ⟨P.p,0,none⟩)) /\
  (w3.alloc (.cells #[.pointer (some ⟨P.p,0,none⟩),.pointer (some ⟨t,0,none⟩),.pointer (some ⟨g,0,none⟩)] 142)).cell? ⟨w3.heap.size,2,none⟩=some (.pointer (some ⟨g,0,none⟩)) /\
  Calls prog 65 #[.pointer (some ⟨P.p,0,none⟩),.int .i64 0,.int .i64 1] (w3.alloc (.cells #[.pointer (some ⟨P.p,0,none⟩),.pointer (some ⟨t,0,none⟩),.pointer (some ⟨g,0,none⟩)] 142)) fun r w4=>r=.returned (.tuple #[.int .i64 64,.int .i64 0])/\w4.cell? ⟨w3.heap.size,1,none⟩=some (.pointer (some ⟨t,0,none⟩)) /\
   Calls prog 66 #[.pointer (some ⟨t,0,none⟩),.agg #[.int .i64 1,.int .i64 64,.int .i64 0]] w4 fun r w5=>(∃x y:Value,r=.returned (.tuple #[x,y]))/\Z6k top limit period H w (.returned (.pointer (some ⟨w3.heap.size,0,none⟩))) w5:=by
 have s123:=(s1.trans s2).trans s3;have s4:=s123.trans (s123.sep.new 142 [.pointer (some ⟨P.p,0,none⟩),.pointer (some ⟨t,0,none⟩),.pointer (some ⟨g,0,none⟩)]);have hc:=Cells.new w3 142 [.pointer (some ⟨P.p,0,none⟩),.pointer (some ⟨t,0,none⟩),.pointer (some ⟨g,0,none⟩)];obtain⟨S,hS⟩:∃S:CO,S=⟨w3.heap.size,P,t,List.replicate 256 (noPl 0),g,period,0,none,[],x0⟩:=⟨_,rfl⟩
 have CH:((w3.heap.size,isC 142 [.pointer (some ⟨P.p,0,none⟩),.pointer (some ⟨t,0,none⟩),.pointer (some ⟨g,0,none⟩)])::(qhl g period 0 none []++((⟨t,List.replicate 256 (noPl 0)⟩:HT).hl++(P.hl++H)))).Perm (S.hl++H):=by
  refine Q1e fun a=>?_
  rw [hS];simp only [CO.hl,CO.head,CO.ht,CO.qh,hc_append,hc_cons,ptr];omega
 have s5:=s4.perm (J5A _) CH;have sS:Sep (w3.alloc (.cells #[.pointer (some ⟨P.p,0,none⟩),.pointer (some ⟨t,0,none⟩),.pointer (some ⟨g,0,none⟩)] 142)) S.hl:=s5.sep.left;refine⟨hc.cell 0 _ rfl,hc.cell 2 _ rfl,?_⟩;have sP:=CO.sP sS;have eP:S.P=P:=by rw [hS]
 rw [eP] at sP;refine (Z8J sP hf hl h1 h0 hm).mono ?_;rintro r w4 ⟨rfl,P',gm,Gp,hq,BA,st⟩;have st':Step S.hl (S.setP P').hl _ w4:=CO.stepP sS P' (by rw [gm.same.p,hS]) (by rw [hS];exact st);have c1:=CO.c1 st'.sep;have Bo:=Z5M (h:=(S.setP P').ht) (CO.sT st'.sep) (by rw [hS];exact J0H) (i:=0) (p:=noPl 0) (by rw [hS];exact Z8K) 1 64 0 0;have ect:S.t=t:=by rw [hS]
 have ecc:S.c=w3.heap.size:=by rw [hS]
 have Rk:w4.cell? ⟨w3.heap.size,1,none⟩=some (.pointer (some ⟨t,0,none⟩)):=by
  rw [<- ect,<- ecc];exact c1
 refine⟨rfl,Rk,?_⟩;have MW:Calls prog 66 #[.pointer (some ⟨t,0,none⟩),.agg #[.int .i64 1,.int .i64 64,.int .i64 0]] w4 (PutT (S.setP P').ht ⟨1,64,0,1,(noPl 0).age,0⟩ 0 w4):=by
  rw [<- ect];exact Bo
 refine MW.mono ?_;rintro r w5 ⟨rfl,st5⟩;refine⟨⟨_,_,rfl⟩,(S.setP P').setL (newL 64),by show _=Ending.returned (.pointer (some ⟨S.c,0,none⟩));rw [ecc],?_,?_⟩
 ·have Fx:=J0u hf hl h1 (by omega) hm gm;refine⟨⟨?_,?_,?_,?_,?_,?_,?_,?_⟩,rfl,?_,?_,?_,?_,BA,Gp,hq,by show S.xc=x0;rw [hS],fun j hj=>?_⟩
  ·show Inv P' (newL 64) [] S.xc (S.ts.map Prod.fst);rw [hS];exact Fx
  ·show 1<=S.period/\_;rw [hS];exact⟨Bh,A8⟩
  ·show ∀x∈S.ts,_;rw [hS];exact fun x hx=>by cases hx
  ·show S.ts.Pairwise _;rw [hS];exact .nil
  ·show ovOk S.rv S.ts.length;rw [hS];exact rfl
  ·show P'.q.next<=_;rw [BA];decide
  ·show S.now<=0;rw [hS];exact J2h _
  ·intro p hp;rcases Q2C hp with rfl|rfl <;> exact J4j _
  ·show S.ts=[];rw [hS]
  ·show S.now=0;rw [hS]
  ·show S.period=period;rw [hS]
  ·show P'.d.top=top;rw [gm.same.top,hf.etop]
  ·show P'.usedOf j=[];rw [gm.other j (by omega)];unfold PL.usedOf;split
   ·split
    ·rename_i c hc;unfold CA.used;rw [(hf.cs _ c hc).2.2.2];rfl
    ·rfl
   ·rfl
 ·have e1:(S.setP P').ht.l.set 0 ⟨1,64,0,1,(noPl 0).age,0⟩=newL 64:=by rw [hS];rfl
  have st6:Step (S.setP P').hl ((S.setP P').setL (newL 64)).hl w4 w5:=by
   have:=CO.stepL (S:=S.setP P') st'.sep _ st5;rw [e1] at this;exact this
  have f1:=Step.frame [] H (by simpa using s5.sep) (st'.trans st6);simp only [J4r] at f1;exact s5.trans f1
theorem Z1U {w:World} {H:HL} (h:Sep w H) (top:Nat) (h1:6<=top) (h2:top<=20) (limit:Int) (h0:64<=limit) (hl:limit<=((2 ^ (top+10):Nat):Int)) (period:Nat) (Bh:1<=period) (A8:period<=16) :
  Calls prog 15 #[.int .i64 ((2 ^ (top+10):Nat):Int),.int .i64 limit,.int .i64 period] w (Z6k top limit period H w):=by
 have b2:2 ^ (top+10)<=1073741824:=J2i (J3v (by omega) (by omega)) (by decide:2 ^ 30<=1073741824);have k1:=Z8l h top h1 h2 limit (by omega) hl;have HQ:Hid (∀r w1,J0t top limit H w r w1->∃pp,r=.returned (.pointer (some ⟨pp,0,none⟩))/\Calls prog 63 #[] w1 fun r w2=>∃t,r=.returned (.pointer (some ⟨t,0,none⟩)) /\
   Calls prog 64 #[.int .i64 period] w2 fun r w3=>∃g,r=.returned (.pointer (some ⟨g,0,none⟩)) /\
    (w3.alloc (.cells #[.pointer (some ⟨pp,0,none⟩),.pointer (some ⟨t,0,none⟩),.pointer (some ⟨g,0,none⟩)] 142)).cell? ⟨w3.heap.size,0,none⟩=some (.pointer (some ⟨pp,0,none⟩)) /\
    (w3.alloc (.cells #[.pointer (some ⟨pp,0,none⟩),.pointer (some ⟨t,0,none⟩),.pointer (some ⟨g,0,none⟩)] 142)).cell? ⟨w3.heap.size,2,none⟩=some (.pointer (some ⟨g,0,none⟩)) /\
    Calls prog 65 #[.pointer (some ⟨pp,0,none⟩),.int .i64 0,.int .i64 1] (w3.alloc (.cells #[.pointer (some ⟨pp,0,none⟩),.pointer (some ⟨t,0,none⟩),.pointer (some ⟨g,0,none⟩)] 142)) fun r w4=>r=.returned (.tuple #[.int .i64 64,.int .i64 0])/\w4.cell? ⟨w3.heap.size,1,none⟩=some (.pointer (some ⟨t,0,none⟩)) /\
     Calls prog 66 #[.pointer (some ⟨t,0,none⟩),.agg #[.int .i64 1,.int .i64 64,.int .i64 0]] w4 fun r w5=>(∃x y:Value,r=.returned (.tuple #[x,y]))/\Z6k top limit period H w (.returned (.pointer (some ⟨w3.heap.size,0,none⟩))) w5):=by
  rintro r w1 ⟨P,rfl,Ac,hf,s1⟩;refine⟨P.p,rfl,(Z8I s1.sep).mono ?_⟩;rintro r w2 ⟨t,rfl,s2⟩;refine⟨t,rfl,(Z8v s2.sep period Bh A8).mono ?_⟩;rintro r w3 ⟨g,rfl,s3⟩;exact⟨g,rfl,Z6l hf Ac h1 h0 (by omega) Bh A8 s1 s2 s3⟩
 generalize Z6k top limit period H w=Q at *
 clear h;go_enter func15,ntmps15;go_wp2_with fail;refine k1.mono ?_;intro r w1 hx;obtain⟨pp,rfl,ht⟩:=HQ.out _ _ hx;have HT:=Q0a ht;clear hx ht HQ k1;go_wp2_with fail;refine HT.out.mono ?_;rintro r w2 ⟨t,rfl,hg⟩;have HG:=Q0a hg;clear hg HT;go_wp2_with fail;refine HG.out.mono ?_;rintro r w3 ⟨g,rfl,c0,c2,B0⟩;have Dr:=Q0a B0;clear B0 HG;go_wp2_with fail;refine Dr.out.mono ?_;rintro r w4 ⟨rfl,c1,Bo⟩;have Nb:=Q0a Bo;clear Bo Dr c0 c2;go_wp2_with fail;refine Nb.out.mono ?_;rintro r w5 ⟨⟨x,y,rfl⟩,hq⟩;have HX:=Q0a hq;clear hq Nb c1;go_wp2_with fail
 first|exact HX.out|(go_ret;exact HX.out)
def Aside (H:HL) (L:List Nat) (a:Option Addr) (w:World):Prop:=∀(j x:Nat),L[j]?=some x->∃g,a=some ⟨g,0,none⟩/\g∉keys H/\g<w.heap.size/\w.cell? ⟨g,j,none⟩=some (.int .u32 x)
theorem Aside.step {H H':HL} {L:List Nat} {a:Option Addr} {w w':World} (h:Aside H L a w) (st:Step H H' w w'):Aside H' L a w':=fun j x hj=>by
 obtain⟨g,h1,h2,h3,h4⟩:=h j x hj;refine⟨g,h1,fun hk=>?_,J2j h3 st.chg.size,(World.cell?_of_block (w:=w) (st.chg.block g h3 h2)).trans h4⟩;rcases st.new g hk with h'|h'
 ·exact h2 h'
 ·omega
theorem NewHs.aside {w w':World} {H:HL} {L:List Nat} {r:Ending} (h:NewHs w L r w') (hs:Sep w H):∃(a:Option Addr) (cap:Nat),r=.returned (.slice a L.length cap)/\Below w.heap.size w w'/\Aside H L a w':=by
 obtain⟨a,cap,e,hb,hi⟩:=h.shape;refine⟨a,cap,e,hb,fun j x hj=>?_⟩;obtain⟨g,h1,h2,h3,h4⟩:=hi.at' j x hj;exact⟨g,h1,fun hk=>by have:=hs.lt hk;omega,h3,h4⟩
structure Able (S:CO) (f:Pl) (e:En Fa) (n:Nat) (lim:Int) (i:Nat) (p:Pl):Prop where
 kind:f.kind=1
 may:n=8∨1<=n/\n<=5
 acc:find S.P.q.E f.own=some e
 cost:((costK n:Nat):Int)<=Q0v e
 page:S.P.d.ps.length<2 ^ S.P.d.top
 place:Fst S.l i p
 lim:n=1->0<=lim/\lim<=Q0v e-64/\S.P.q.E.length<32
theorem MakeR.able {S:CO} {fr:List Nat} {h:Nat} {n:Nat} {lim:Int} {w w':World} {r:Ending} (m:MakeR S fr h (n:Int) lim w r w') {f:Pl} (hf:pget S.l 1 h=some f) {e:En Fa} {i:Nat} {p:Pl} (a:Able S f e n lim i p) :
  ∃b x P' fr',r=two (nm i p) 0/\MadeOk S fr f e n b lim x i p P' fr'/\Step S.hl (S.made f n b x i p P').hl w w':=by
 rcases m with ⟨h0,_⟩|⟨f',M7,hm⟩
 ·rw [hf] at h0;cases h0
 ·rw [hf] at M7;cases M7;rcases hm with ⟨h0,_⟩|⟨_,hc,_⟩|⟨n',e',hn,_,_,_,he,hk⟩
  ·exact absurd a.kind h0
  ·exfalso;have:=a.may;rcases hc with h1|⟨h1,h2⟩
   ·apply h1;omega
   ·have:=a.lim (by omega);omega
  ·have:n'=n:=by omega
   subst this;rw [a.acc] at he;cases he;rcases hk with ⟨h0,_⟩|⟨_,h0,_⟩|⟨_,er,P',hc,_⟩|⟨i',p',b,x,P',fr',h1,h2,h3,_,rfl,hm,st⟩
   ·have:=a.cost;omega
   ·have:=h0.len;have:=a.page;omega
   ·exfalso;obtain⟨p1,p2,p3⟩:=a.place;rcases hc with ⟨_,h1|⟨h1,h2⟩⟩|⟨_,h1,h2⟩
    ·exact h1 p (J4v p1) p2
    ·have:=a.lim h1;omega
    ·have:=a.lim h1;omega
   ·obtain⟨p1,p2,p3⟩:=a.place;have hi:i'=i:=by
     rcases J5i i' i with h|h|h
     ·exact absurd h2 (p3 i' p' h h1)
     ·exact h
     ·exact absurd p2 (h3 i p h p1)
    subst hi;rw [p1] at h1;cases h1;exact⟨b,x,P',fr',rfl,hm,st⟩
structure Ent where
 h:Nat
 r:Nat
 nd:Nat
def Ent.a (e:Ent):Nat:=e.h+1+4294967296*e.r
def Q0s:Option Ent->Nat
 | none=>0
 | some e=>e.a
def Q0V:Option Ent->Nat
 | none=>0
 | some e=>e.nd
theorem codeA_zero {o:Option Ent}:Q0s o=0↔o=none:=by
 cases o with
 | none=>simp [Q0s]
 | some e=>simp [Q0s,Ent.a]
structure TB where
 lf:Nat->Nat
 en:Nat->Option Ent
def TB.emp:TB:=⟨fun _=>0,fun _=>none⟩
structure TB.In (t:TB) (m:List Nat) (a:Nat):Prop where
 root:∀k,k<16->Q0u m (a+8*k)=t.lf k
 ent:∀s,s<256->t.lf (s/16)≠0->Q0u m (t.lf (s/16)+16*(s%16))=Q0s (t.en s)/\Q0u m (t.lf (s/16)+16*(s%16)+8)=Q0V (t.en s)
 hole:∀s,s<256->t.lf (s/16)=0->t.en s=Option.none
def TB.Full (t:TB):Prop:=∀k,k<16->t.lf k≠0->∃s,s<256/\s/16=k/\t.en s≠none
def TB.Nil (t:TB):Prop:=(∀k,k<16->t.lf k=0)/\∀s,s<256->t.en s=none
theorem TB.emp_nil:TB.emp.Nil:=⟨fun _ _=>rfl,fun _ _=>rfl⟩
theorem TB.In.kept {t:TB} {m m':List Nat} {a:Nat} (h:t.In m a) (k1:Kept m m' a 128) (k2:∀k,k<16->t.lf k≠0->Kept m m' (t.lf k) 256):t.In m' a:=by
 refine⟨fun k hk=>?_,fun s hs hl=>?_,h.hole⟩
 ·rw [(k1.sub (b:=a+8*k) (k:=8) (by omega) (by omega)).word];exact h.root k hk
 ·have:=k2 (s/16) (by omega) hl;rw [(this.sub (b:=t.lf (s/16)+16*(s%16)) (k:=8) (by omega) (by omega)).word,(this.sub (b:=t.lf (s/16)+16*(s%16)+8) (k:=8) (by omega) (by omega)).word];exact h.ent s hs hl
theorem TB.Nil.new {t:TB} (hn:t.Nil) {m:List Nat} {a:Nat} (h:∀j,a<=j->j<a+128->m[j]?=some 0):t.In m a:=by
 refine⟨fun k hk=>?_,fun s hs hl=>absurd (hn.1 (s/16) (by omega)) hl,fun s hs _=>hn.2 s hs⟩;have:(m.drop (a+8*k)).take 8=List.replicate 8 0:=by
  apply J3P
  intro j;rw [J4k,J4i];split
  ·rw [J4J];exact h _ (by omega) (by omega)
  ·rfl
 unfold Q0u;rw [this,hn.1 k hk];rfl
theorem TB.Nil.full {t:TB} (hn:t.Nil):t.Full:=fun k hk h=>absurd (hn.1 k hk) h
def TB.setE (t:TB) (s:Nat) (o:Option Ent):TB:={t with en:=fun x=>if x=s then o else t.en x}
def TB.setL (t:TB) (k a:Nat):TB:={t with lf:=fun x=>if x=k then a else t.lf x}
theorem TB.In.set {t:TB} {m m':List Nat} {a s:Nat} {o:Option Ent} (h:t.In m a) (hs:s<256) (hl:t.lf (s/16)≠0) (hk:∀b n,b+n<=t.lf (s/16)+16*(s%16)∨t.lf (s/16)+16*(s%16)+16<=b->Kept m m' b n)
  (ha:Q0u m' (t.lf (s/16)+16*(s%16))=Q0s o) (hb:Q0u m' (t.lf (s/16)+16*(s%16)+8)=Q0V o) (AC:a+128<=t.lf (s/16)∨t.lf (s/16)+256<=a)
  (FK:∀k,k<16->k≠s/16->t.lf k≠0->t.lf k+256<=t.lf (s/16)∨t.lf (s/16)+256<=t.lf k):(t.setE s o).In m' a:=by
 refine⟨fun k BC=>?_,fun x hx C9=>?_,fun x hx C9=>?_⟩
 ·show Q0u m' _=t.lf k;rw [(hk (a+8*k) 8 (by omega)).word];exact h.root k BC
 ·have Fn:t.lf (x/16)≠0:=C9;show Q0u m' (t.lf (x/16)+_)=Q0s (if x=s then o else t.en x)/\Q0u m' (t.lf (x/16)+_+8)=Q0V (if x=s then o else t.en x);by_cases e:x=s
  ·subst e;rw [if_pos rfl];exact⟨ha,hb⟩
  ·rw [if_neg e];by_cases e2:x/16=s/16
   ·rw [e2] at Fn ⊢;have Aa:x%16≠s%16:=by omega
    have h0:=h.ent x hx (by rw [e2];exact Fn);rw [e2] at h0;rw [(hk (t.lf (s/16)+16*(x%16)) 8 (by omega)).word,(hk (t.lf (s/16)+16*(x%16)+8) 8 (by omega)).word];exact h0
   ·have:=FK (x/16) (by omega) e2 Fn;rw [(hk (t.lf (x/16)+16*(x%16)) 8 (by omega)).word,(hk (t.lf (x/16)+16*(x%16)+8) 8 (by omega)).word];exact h.ent x hx Fn
 ·have Fn:t.lf (x/16)=0:=C9;show (if x=s then o else t.en x)=none;by_cases e:x=s
  ·subst e;exact absurd Fn hl
  ·rw [if_neg e];exact h.hole x hx Fn
theorem TB.In.grow {t:TB} {m m':List Nat} {a k L:Nat} (h:t.In m a) (hk:k<16) (hl:t.lf k=0) (hL:L≠0) (Bu:Q0u m' (a+8*k)=L) (hz:∀j,L<=j->j<L+256->m'[j]?=some 0)
  (hr:∀x,x<16->x≠k->Kept m m' (a+8*x) 8) (FK:∀x,x<16->t.lf x≠0->Kept m m' (t.lf x) 256):(t.setL k L).In m' a:=by
 refine⟨fun x hx=>?_,fun s hs F5=>?_,fun s hs F5=>?_⟩
 ·show Q0u m' _=if x=k then L else t.lf x
  by_cases e:x=k
  ·subst e;rw [if_pos rfl];exact Bu
  ·rw [if_neg e,(hr x hx e).word];exact h.root x hx
 ·show Q0u m' ((if s/16=k then L else t.lf (s/16))+_)=Q0s (t.en s)/\Q0u m' ((if s/16=k then L else t.lf (s/16))+_+8)=Q0V (t.en s);by_cases e:s/16=k
  ·rw [if_pos e];have hn:=h.hole s hs (by rw [e];exact hl);rw [hn];have zw:∀b,L<=b->b+8<=L+256->Q0u m' b=0:=fun b h1 h2=>by
    have:(m'.drop b).take 8=List.replicate 8 0:=by
     apply J3P
     intro j;rw [J4k,J4i];split
     ·rw [J4J];exact hz _ (by omega) (by omega)
     ·rfl
    unfold Q0u;rw [this];rfl
   exact⟨zw _ (by omega) (by omega),zw _ (by omega) (by omega)⟩
  ·rw [if_neg e];have Fp:t.lf (s/16)≠0:=by
    have:(if s/16=k then L else t.lf (s/16))≠0:=F5
    rwa [if_neg e] at this
   have:=FK (s/16) (by omega) Fp;rw [(this.sub (b:=t.lf (s/16)+16*(s%16)) (k:=8) (by omega) (by omega)).word,(this.sub (b:=t.lf (s/16)+16*(s%16)+8) (k:=8) (by omega) (by omega)).word];exact h.ent s hs Fp
 ·have Fp:(if s/16=k then L else t.lf (s/16))=0:=F5;show t.en s=none;by_cases e:s/16=k
  ·rw [if_pos e] at Fp;exact absurd Fp hL
  ·rw [if_neg e] at Fp;exact h.hole s hs Fp
theorem TB.In.drop {t:TB} {m m':List Nat} {a k:Nat} (h:t.In m a) (hk:k<16) (he:∀s,s<256->s/16=k->t.en s=none) (Bu:Q0u m' (a+8*k)=0)
  (hr:∀x,x<16->x≠k->Kept m m' (a+8*x) 8) (FK:∀x,x<16->x≠k->t.lf x≠0->Kept m m' (t.lf x) 256):(t.setL k 0).In m' a:=by
 refine⟨fun x hx=>?_,fun s hs F5=>?_,fun s hs F5=>?_⟩
 ·show Q0u m' _=if x=k then 0 else t.lf x
  by_cases e:x=k
  ·subst e;rw [if_pos rfl];exact Bu
  ·rw [if_neg e,(hr x hx e).word];exact h.root x hx
 ·have Fm:(if s/16=k then 0 else t.lf (s/16))≠0:=F5;have e:s/16≠k:=fun e=>Fm (by rw [if_pos e])
  rw [if_neg e] at Fm;show Q0u m' ((if s/16=k then 0 else t.lf (s/16))+_)=Q0s (t.en s)/\Q0u m' ((if s/16=k then 0 else t.lf (s/16))+_+8)=Q0V (t.en s);rw [if_neg e];have:=FK (s/16) (by omega) e Fm;rw [(this.sub (b:=t.lf (s/16)+16*(s%16)) (k:=8) (by omega) (by omega)).word,(this.sub (b:=t.lf (s/16)+16*(s%16)+8) (k:=8) (by omega) (by omega)).word];exact h.ent s hs Fm
 ·have Fm:(if s/16=k then 0 else t.lf (s/16))=0:=F5;show t.en s=none;by_cases e:s/16=k
  ·exact he s hs e
  ·rw [if_neg e] at Fm;exact h.hole s hs Fm
def TB.lvs (t:TB):List Nat:=(List.range 16).filterMap fun k=>if t.lf k=0 then none else some (t.lf k)
def TB.nds (t:TB):List Nat:=(List.range 256).filterMap fun s=>(t.en s).map Ent.nd
def TB.cost (t:TB):Int:=256*(t.lvs.length:Int)+48*(t.nds.length:Int)
theorem mem_lvs {t:TB} {a:Nat}:a∈t.lvs↔∃k,k<16/\t.lf k=a/\a≠0:=by
 unfold TB.lvs;simp only [J2w,J2x]
 constructor
 ·rintro⟨k,hk,h⟩;split at h
  ·cases h
  ·rename_i h0;cases h;exact⟨k,hk,rfl,h0⟩
 ·rintro⟨k,hk,rfl,h0⟩;exact⟨k,hk,by rw [if_neg h0]⟩
theorem mem_nds {t:TB} {a:Nat}:a∈t.nds↔∃s e,s<256/\t.en s=some e/\e.nd=a:=by
 unfold TB.nds;simp only [J2w,J2x]
 constructor
 ·rintro⟨s,hs,h⟩;obtain⟨e,h1,h2⟩:=J6e.1 h;exact⟨s,e,hs,h1,h2⟩
 ·rintro⟨s,e,hs,h1,h2⟩;exact⟨s,hs,by rw [h1,<- h2];rfl⟩
theorem Q4J {α β:Type} {f g:α->Option β}:∀{l:List α},(∀x∈l,f x=g x)->l.filterMap f=l.filterMap g
 | [],_=>rfl
 | x::r,h=>by rw [J2u,J2u,h x (by simp),Q4J (l:=r) fun y hy=>h y (by simp [hy])]
theorem Q8u {α β:Type} (f g:Nat->Option β) (n i:Nat) (hi:i<n) (h:∀j,j<n->j≠i->g j=f j):∃A B,(List.range n).filterMap f=A++(f i).toList++B/\(List.range n).filterMap g=A++(g i).toList++B:=by
 have e:List.range n=List.range i++i::(List.range' (i+1) (n-(i+1))):=by
  rw [List.range_eq_range',List.range_eq_range'];have h1:List.range' 0 n=List.range' 0 i++List.range' i (n-i):=by
   have:=List.range'_append (s:=0) (m:=i) (n:=n-i) (step:=1);simp only [Nat.one_mul,J4L] at this;rw [this];congr 1;omega
  rw [h1];congr 1;have:n-i=(n-(i+1))+1:=by omega
  rw [this,List.range'_succ]
 have s1:∀(f:Nat->Option β),(List.range n).filterMap f=(List.range i).filterMap f++(f i).toList++(List.range' (i+1) (n-(i+1))).filterMap f:=fun f=>by
  rw [e,J2t,J2u];cases f i <;> simp
 refine⟨(List.range i).filterMap f,(List.range' (i+1) (n-(i+1))).filterMap f,s1 f,?_⟩;rw [s1 g];have c1:(List.range i).filterMap g=(List.range i).filterMap f:=Q4J fun j hj=>h j (by have:=J2x.1 hj;omega) (by have:=J2x.1 hj;omega)
 have c2:(List.range' (i+1) (n-(i+1))).filterMap g=(List.range' (i+1) (n-(i+1))).filterMap f:=Q4J fun j hj=>by
  have:=List.mem_range'_1.1 hj;exact h j (by omega) (by omega)
 rw [c1,c2]
theorem TB.nds_set {t:TB} {s:Nat} (hs:s<256) {e:Ent} (h0:t.en s=none):(t.setE s (some e)).nds.Perm (e.nd::t.nds):=by
 obtain⟨A,B,e1,e2⟩:=Q8u (α:=Nat) (fun s=>(t.en s).map Ent.nd) (fun x=>((t.setE s (some e)).en x).map Ent.nd) 256 s hs (fun j _ hj=>by simp [TB.setE,hj]);unfold TB.nds;rw [e1,e2];simp only [TB.setE,if_true,h0,J3V,Option.map_none,J6f,J6g,J4n];rw [J3h];exact J5L
theorem TB.nds_clr {t:TB} {s:Nat} (hs:s<256) {e:Ent} (h0:t.en s=some e):t.nds.Perm (e.nd::(t.setE s none).nds):=by
 obtain⟨A,B,e1,e2⟩:=Q8u (α:=Nat) (fun s=>(t.en s).map Ent.nd) (fun x=>((t.setE s none).en x).map Ent.nd) 256 s hs (fun j _ hj=>by simp [TB.setE,hj]);unfold TB.nds;rw [e1,e2];simp only [TB.setE,if_true,h0,J3V,Option.map_none,J6f,J6g,J4n];rw [J3h];exact J5L
theorem TB.nds_same {t:TB} {s:Nat} (hs:s<256) {e e':Ent} (h0:t.en s=some e) (hn:e'.nd=e.nd):(t.setE s (some e')).nds=t.nds:=by
 unfold TB.nds;refine Q4J fun x _=>?_
 by_cases h:x=s
 ·subst h;simp [TB.setE,h0,hn]
 ·simp [TB.setE,h]
theorem TB.lvs_new {t:TB} {k a:Nat} (hk:k<16) (h0:t.lf k=0) (ha:a≠0):(t.setL k a).lvs.Perm (a::t.lvs):=by
 obtain⟨A,B,e1,e2⟩:=Q8u (α:=Nat) (fun k=>if t.lf k=0 then none else some (t.lf k)) (fun x=>if (t.setL k a).lf x=0 then none else some ((t.setL k a).lf x)) 16 k hk (fun j _ hj=>by simp [TB.setL,hj]);unfold TB.lvs;rw [e1,e2];simp only [TB.setL,if_true,h0,if_neg ha,J6f,J6g,J4n];rw [J3h];exact J5L
theorem TB.lvs_drop {t:TB} {k:Nat} (hk:k<16) (h0:t.lf k≠0):t.lvs.Perm (t.lf k::(t.setL k 0).lvs):=by
 obtain⟨A,B,e1,e2⟩:=Q8u (α:=Nat) (fun k=>if t.lf k=0 then none else some (t.lf k)) (fun x=>if (t.setL k 0).lf x=0 then none else some ((t.setL k 0).lf x)) 16 k hk (fun j _ hj=>by simp [TB.setL,hj]);unfold TB.lvs;rw [e1,e2];simp only [TB.setL,if_true,if_neg h0,J6f,J6g,J4n];rw [J3h];exact J5L
theorem TB.Nil.lists {t:TB} (hn:t.Nil):t.lvs=[]/\t.nds=[]/\t.cost=0:=by
 have h1:t.lvs=[]:=by
  apply J6h.2
  intro a ha;obtain⟨k,hk,e,h0⟩:=mem_lvs.1 ha;rw [hn.1 k hk] at e;exact h0 e.symm
 have h2:t.nds=[]:=by
  apply J6h.2
  intro a ha;obtain⟨s,e,hs,h,_⟩:=mem_nds.1 ha;rw [hn.2 s hs] at h;cases h
 refine⟨h1,h2,?_⟩;unfold TB.cost;rw [h1,h2];rfl
theorem TB.nil_of {t:TB} (hf:t.Full) (h:∀s,s<256->t.en s=none):t.Nil:=by
 refine⟨fun k hk=>?_,h⟩
 apply Classical.byContradiction
 intro h0;obtain⟨s,hs,_,Aa⟩:=hf k hk h0;exact Aa (h s hs)
theorem TB.cost_nn (t:TB):0<=t.cost:=by unfold TB.cost;omega
def xcP (tb:Nat->TB) (id:Int) (i:Nat) (o:Option Pl):Int:=match o with
 | some p=>if (p.fac:Int)=id then (tb i).cost else 0
 | none=>0
def xcOf (l:List Pl) (tb:Nat->TB) (id:Int):Int:=((List.range 256).map fun i=>xcP tb id i l[i]?).sum
def Q3k (tb:Nat->TB):List Nat:=(List.range 256).flatMap fun i=>(tb i).lvs
def Q4i (tb:Nat->TB):List Nat:=(List.range 256).flatMap fun i=>(tb i).nds
structure TPI (S:CO) (tb:Nat->TB):Prop where
 tin:∀(i:Nat) (p:Pl),S.l[i]?=some p->p.st=1->p.kind=2->(tb i).In S.P.a.mem p.at_
 full:∀i,i<256->(tb i).Full
 nil:∀(i:Nat) (p:Pl),S.l[i]?=some p->¬(p.st=1/\p.kind=2)->(tb i).Nil
 lvs:(Q3k tb).Perm (S.P.usedOf 7)
 nds:(Q4i tb).Perm (S.P.usedOf 6)
 xc:∀id,S.xc id=xcOf S.l tb id
theorem Q3l {n:Nat} {f g:Nat->Int} (h:∀i,i<n->f i=g i):((List.range n).map f).sum=((List.range n).map g).sum:=by
 congr 1;exact J4q fun i hi=>h i (J2x.1 hi)
theorem Q7z {l l':List Pl} {tb tb':Nat->TB} {id:Int} (h:∀i,i<256->xcP tb id i l[i]?=xcP tb' id i l'[i]?):xcOf l tb id=xcOf l' tb' id:=Q3l h
theorem Z1V {l:List Pl} {tb:Nat->TB} {i:Nat} {q:Pl} (hi:i<l.length) (hn:(tb i).Nil) (id:Int):xcOf (l.set i q) tb id=xcOf l tb id:=by
 refine Q7z fun j hj=>?_
 by_cases e:i=j
 ·subst e;have h0:=(TB.Nil.lists hn).2.2;have hp:∀o,xcP tb id i o=0:=fun o=>by
   unfold xcP;cases o with
   | none=>rfl
   | some p=>simp only [h0];split <;> rfl
  rw [hp,hp]
 ·rw [J5O e]
theorem Q2T:Q0c 7=256:=rfl
theorem Q5j:Q0c 6=48:=rfl
theorem Z6m:costK 2=128:=rfl
theorem TPI.leaf {S:CO} {tb:Nat->TB} (t:TPI S tb) {i k:Nat} (hi:i<256) (hk:k<16) (h:(tb i).lf k≠0):(tb i).lf k∈S.P.usedOf 7:=by
 refine t.lvs.mem_iff.1 (J2H.2 ⟨i,J2x.2 hi,mem_lvs.2 ⟨k,hk,rfl,h⟩⟩)
theorem Q1r {l:List Pl} (hl:l.length=256) {i:Nat} {p:Pl} (h:l[i]?=some p):i<256:=by
 have:=(J2y.1 h).1;omega
theorem TPI.tin_kept {S:CO} {tb:Nat->TB} (hl:S.l.length=256) (t:TPI S tb) {m:List Nat} (k1:∀(i:Nat) (p:Pl),S.l[i]?=some p->p.st=1->p.kind=2->Kept S.P.a.mem m p.at_ 128) (k2:∀a,a∈S.P.usedOf 7->Kept S.P.a.mem m a 256) {i:Nat} {p:Pl} (hi:S.l[i]?=some p) (h1:p.st=1) (h2:p.kind=2):(tb i).In m p.at_:=
 (t.tin i p hi h1 h2).kept (k1 i p hi h1 h2) fun k hk Aa=>k2 _ (t.leaf (Q1r hl hi) hk Aa)
theorem TPI.tried {S:CO} {tb:Nat->TB} {fr:List Nat} {N K:Nat} (ok:S.Ok fr N K) (t:TPI S tb) {P':PL} (h:Tried S.P fr S.l P'):TPI (S.setP P') tb:=by
 refine⟨fun i p hi h1 h2=>?_,t.full,t.nil,t.lvs.trans (h.used 7).symm,t.nds.trans (h.used 6).symm,t.xc⟩;refine t.tin_kept ok.inv.len (fun j q hj q1 q2=>?_) (fun a ha=>h.memH 7 a (by omega) ha) hi h1 h2;have:=h.mem q (J4v hj) (Pl.is_iff.2 (.inl q1));rw [q2] at this;exact this
theorem TPI.made {S:CO} {tb:Nat->TB} {fr fr':List Nat} {N K:Nat} (ok:S.Ok fr N K) (t:TPI S tb) {f p:Pl} {e:En Fa} {n a x i:Nat} {lim:Int} {P':PL} (m:MadeOk S fr f e n a lim x i p P' fr') (hi:S.l[i]?=some p) (hp:p.st=0):TPI (S.made f n a x i p P') tb:=by
 have An:=Q1r ok.inv.len hi;have Cq:=t.nil i p hi (by omega);have Ab:i<S.l.length:=(J2y.1 hi).1;refine⟨fun j q hj q1 q2=>?_,t.full,fun j q hj hq=>?_,t.lvs.trans (m.high 7 (by omega)).symm,t.nds.trans (m.high 6 (by omega)).symm,fun id=>?_⟩
 ·have Bw:(S.l.set i ⟨n,a,f.own,1,p.age,x⟩)[j]?=some q:=hj;by_cases e:i=j
  ·subst e;rw [J5W Ab] at Bw;cases Bw;have TO:n=2:=q2;refine Cq.new fun y h1 h2=>m.zero (by omega) y h1 ?_
   rw [TO,Z6m];exact h2
  ·rw [J5O e] at Bw;refine t.tin_kept ok.inv.len (fun k r hk r1 r2=>?_) (fun b hb=>m.memH 7 b (by omega) hb) Bw q1 q2;have:=m.kept r (J4v hk) (Pl.is_iff.2 (.inl r1));rw [r2] at this;exact this
 ·have Bw:(S.l.set i ⟨n,a,f.own,1,p.age,x⟩)[j]?=some q:=hj;by_cases e:i=j
  ·subst e;exact Cq
  ·rw [J5O e] at Bw;exact t.nil j q Bw hq
 ·show S.xc id=xcOf (S.l.set i _) tb id;rw [Z1V Ab Cq,t.xc]
theorem TPI.spare {S:CO} {tb:Nat->TB} {fr:List Nat} {N K:Nat} (ok:S.Ok fr N K) (t:TPI S tb) {h:Nat} {p:Pl} (hp:pget S.l 1 h=some p) (hn:(tb (h%256)).Nil):S.Spare h p:=by
 obtain⟨hi,_,_⟩:=pget_some.1 hp;intro id Aa;rw [t.xc] at Aa
 -- some place has what counts
 have Wv:∃j,j<256/\xcP tb id j S.l[j]?≠0:=by
  apply Classical.byContradiction
  intro Ar
  apply Aa
  have h0:xcOf S.l tb id=((List.range 256).map fun _=>(0:Int)).sum:=Q3l fun j hj=>Classical.byContradiction fun h=>Ar ⟨j,hj,h⟩
  rw [h0];have z:∀l:List Nat,(l.map fun _=>(0:Int)).sum=0:=fun l=>by
   induction l with
   | nil=>rfl
   | cons a r ih=>rw [J2k,J5T,ih];rfl
  exact z _
 obtain⟨j,hj,hx⟩:=Wv;unfold xcP at hx;cases hl:S.l[j]? with
 | none=>rw [hl] at hx;exact absurd rfl hx
 | some r =>
  rw [hl] at hx;simp only at hx;split at hx
  ·rename_i hf;have El:¬(tb j).Nil:=fun h=>hx (TB.Nil.lists h).2.2
   have BV:r.st=1/\r.kind=2:=Classical.byContradiction fun h=>El (t.nil j r hl h)
   have B9:h%256≠j:=fun e=>El (by rw [<- e];exact hn)
   exact⟨r,J4v (i:=j) (by rw [J5O B9];exact hl),BV.1,hf⟩
  ·exact absurd rfl hx
theorem TPI.doomed {S:CO} {tb:Nat->TB} {fr:List Nat} {N K:Nat} (ok:S.Ok fr N K) (t:TPI S tb) {h:Nat} {p:Pl} (hp:pget S.l 1 h=some p) (hn:(tb (h%256)).Nil) (rv:OV):TPI (S.doomed h p rv) tb:=by
 obtain⟨hi,_,_⟩:=pget_some.1 hp;have Ab:h%256<S.l.length:=(J2y.1 hi).1;refine⟨fun j q hj q1 q2=>?_,t.full,fun j q hj hq=>?_,t.lvs,t.nds,fun id=>?_⟩
 ·have Bw:(S.l.set (h%256) {p with st:=2})[j]?=some q:=hj;by_cases e:h%256=j
  ·subst e;rw [J5W Ab] at Bw;cases Bw;cases q1
  ·rw [J5O e] at Bw;exact t.tin j q Bw q1 q2
 ·have Bw:(S.l.set (h%256) {p with st:=2})[j]?=some q:=hj;by_cases e:h%256=j
  ·subst e;exact hn
  ·rw [J5O e] at Bw;exact t.nil j q Bw hq
 ·show S.xc id=xcOf (S.l.set (h%256) _) tb id;rw [Z1V Ab hn,t.xc]
theorem TPI.ticked {S S':CO} {tb:Nat->TB} {D:List Nat} (hl:S.l.length=256) (Ix:S'.l.length=256) (t:TPI S tb) (BV:∀x,pget S'.l 1 x=pget S.l 1 x) (Aw:S'.P.a.mem=S.P.a.mem) (hhigh:∀j,6<=j->(S'.P.usedOf j).Perm (S.P.usedOf j)) (GG:S'.xc=S.xc):TPI S' tb:=by
 have fwd:∀(i:Nat) (p:Pl),S.l[i]?=some p->p.st=1->S'.l[i]?=some p:=fun i p hi h1=>by
  have An:=Q1r hl hi;have:pget S.l 1 (nm i p)=some p:=pget_some.2 ⟨by rw [Q1y An];exact hi,by rw [Q1y An],h1⟩;rw [<- BV] at this;have:=(pget_some.1 this).1
  rwa [Q1y An] at this
 have bwd:∀(i:Nat) (p:Pl),S'.l[i]?=some p->p.st=1->S.l[i]?=some p:=fun i p hi h1=>by
  have An:=Q1r Ix hi;have:pget S'.l 1 (nm i p)=some p:=pget_some.2 ⟨by rw [Q1y An];exact hi,by rw [Q1y An],h1⟩;rw [BV] at this;have:=(pget_some.1 this).1
  rwa [Q1y An] at this
 have same:∀i,i<256->(tb i).Nil∨S'.l[i]?=S.l[i]?:=fun i hi=>by
  have hp:S.l[i]?=some (S.l[i]'(by omega)):=J4y _;by_cases h:(S.l[i]'(by omega)).st=1/\(S.l[i]'(by omega)).kind=2
  ·right;rw [fwd i _ hp h.1,hp]
  ·exact .inl (t.nil i _ hp h)
 refine⟨fun i p hi h1 h2=>?_,t.full,fun i p hi h=>?_,t.lvs.trans (hhigh 7 (by omega)).symm,t.nds.trans (hhigh 6 (by omega)).symm,fun id=>?_⟩
 ·rw [Aw];exact t.tin i p (bwd i p hi h1) h1 h2
 ·rcases same i (Q1r Ix hi) with hn|e
  ·exact hn
  ·rw [e] at hi;exact t.nil i p hi h
 ·rw [GG,t.xc];refine Q7z fun i hi=>?_
  rcases same i hi with hn|e
  ·have h0:=(TB.Nil.lists hn).2.2;have hp:∀o,xcP tb id i o=0:=fun o=>by
    unfold xcP;cases o with
    | none=>rfl
    | some p=>simp only [h0];split <;> rfl
   rw [hp,hp]
  ·rw [e]
def CO.paid (S:CO) (P':PL) (own:Int) (d:Int):CO:={S with P:=P',xc:=fun id=>if id=own then S.xc id+d else S.xc id}
theorem TreI.pay {E:List (En Fa)} {l:List Pl} {xc:Int->Int} (t:TreI E l xc) (Ae:E.Pairwise (fun a b=>a.id≠b.id)) {own:Int} {e:En Fa} (hf:find E own=some e) (d:Int):TreI (upd E own {e.q with charged:=e.q.charged+d}) l (fun id=>if id=own then xc id+d else xc id):=by
 have Ir:∀a,Q1R (upd E own {e.q with charged:=e.q.charged+d}) a=Q1R E a:=fun a=>Q1O Ae hf _ _ rfl
 have Gi:∀a,Q1S (upd E own {e.q with charged:=e.q.charged+d}) a=Q1S E a:=fun a=>Q1O Ae hf _ _ rfl
 refine⟨by rw [Q1q];exact t.ids,fun p hp Au=>?_,fun p hp Au hk x hx=>?_,fun id x hx=>?_,fun id x hx=>?_⟩
 ·obtain⟨y,hy⟩:=t.fac p hp Au;exact Q1a _ hy
 ·obtain⟨y,hy,h1,h2⟩:=Q0q _ hf hx;have:=t.par p hp Au hk y hy;by_cases hid:(p.own:Int)=own
  ·obtain⟨rfl,e2⟩:=h1 hid;rw [e2];exact this
  ·rw [h2 hid];exact this
 ·obtain⟨y,hy,h1,h2⟩:=Q0q _ hf hx;have:=t.charged id y hy;by_cases hid:id=own
  ·obtain⟨rfl,e2⟩:=h1 hid;rw [e2,if_pos hid];show y.q.charged+d=_;omega
  ·rw [h2 hid,if_neg hid];exact this
 ·obtain⟨y,hy,h1,h2⟩:=Q0q _ hf hx;have:=t.given id y hy;rw [Ir,Gi];by_cases hid:id=own
  ·obtain⟨rfl,e2⟩:=h1 hid;rw [e2];exact this
  ·rw [h2 hid];exact this
theorem CO.Ok.paid {S:CO} {fr:List Nat} {N K:Nat} (ok:S.Ok fr N K) {P':PL} {own:Int} {e:En Fa} {d:Int} (AY:P'.Ok fr) (he:find S.P.q.E own=some e) (hE:P'.q={S.P.q with E:=upd S.P.q.E own {e.q with charged:=e.q.charged+d}}) (hu:∀j,1<=j->j<=5->P'.usedOf j=S.P.usedOf j) (hw:∀b∈S.P.usedOf 1,Q0u P'.a.mem b=Q0u S.P.a.mem b)
  (El:0<=S.xc own+d) (BV:S.xc own+d≠0->∃p∈S.l,p.st=1/\(p.fac:Int)=own):(S.paid P' own d).Ok fr N K:=by
 have v:=ok.inv;refine⟨⟨v.len,v.st,v.mem.same AY hu hw,?_,?_⟩,ok.per,ok.due,ok.ord,ok.ov,?_,ok.now,ok.age⟩
 ·show TreI P'.q.E S.l _;rw [hE];exact v.tre.pay v.mem.pool.q.ids he d
 ·refine⟨v.que.root,v.que.live,fun id=>?_,v.que.nd,v.que.has,v.que.ord⟩;show 0<=(if id=own then S.xc id+d else S.xc id)/\((if id=own then S.xc id+d else S.xc id)≠0->_);split
  ·rename_i h;subst h;exact⟨El,BV⟩
  ·exact v.que.xc id
 ·show P'.q.next<=N;rw [hE];exact ok.next
theorem CO.Ok.stored {S:CO} {fr:List Nat} {N K:Nat} (ok:S.Ok fr N K) {m:List Nat} (hl:m.length=S.P.a.mem.length) (hb:∀b∈m,b<256) (hw:∀b∈S.P.usedOf 1,Q0u m b=Q0u S.P.a.mem b):(S.setP (S.P.setA m)).Ok fr N K:=by
 have v:=ok.inv;exact⟨⟨v.len,v.st,v.mem.same (PL.ok_setA v.mem.pool hl hb) (fun _ _ _=>rfl) hw,v.tre,v.que⟩,ok.per,ok.due,ok.ord,ok.ov,ok.next,ok.now,ok.age⟩
structure TPX (S:CO) (tb:Nat->TB) (own:Int) (xl xn:List Nat):Prop where
 tin:∀(i:Nat) (p:Pl),S.l[i]?=some p->p.st=1->p.kind=2->(tb i).In S.P.a.mem p.at_
 nil:∀(i:Nat) (p:Pl),S.l[i]?=some p->¬(p.st=1/\p.kind=2)->(tb i).Nil
 lvs:(xl++Q3k tb).Perm (S.P.usedOf 7)
 nds:(xn++Q4i tb).Perm (S.P.usedOf 6)
 xc:∀id,S.xc id=xcOf S.l tb id+if id=own then 256*(xl.length:Int)+48*(xn.length:Int) else 0
theorem TPI.x {S:CO} {tb:Nat->TB} (t:TPI S tb) (own:Int):TPX S tb own [] []:=⟨t.tin,t.nil,t.lvs,t.nds,fun id=>by rw [t.xc];simp⟩
theorem TPX.done {S:CO} {tb:Nat->TB} {own:Int} (t:TPX S tb own [] []) (hf:∀i,i<256->(tb i).Full):TPI S tb:=⟨t.tin,hf,t.nil,t.lvs,t.nds,fun id=>by rw [t.xc];simp⟩
theorem TPX.leaf {S:CO} {tb:Nat->TB} {own:Int} {xl xn:List Nat} (t:TPX S tb own xl xn) {i k:Nat} (hi:i<256) (hk:k<16) (h:(tb i).lf k≠0):(tb i).lf k∈S.P.usedOf 7:=
 t.lvs.mem_iff.1 (J3b _ (J2H.2 ⟨i,J2x.2 hi,mem_lvs.2 ⟨k,hk,rfl,h⟩⟩))
theorem TPX.tin_kept {S:CO} {tb:Nat->TB} {own:Int} {xl xn:List Nat} (hl:S.l.length=256) (t:TPX S tb own xl xn) {m:List Nat} (k1:∀(i:Nat) (p:Pl),S.l[i]?=some p->p.st=1->p.kind=2->Kept S.P.a.mem m p.at_ 128) (k2:∀a,a∈S.P.usedOf 7->Kept S.P.a.mem m a 256) {i:Nat} {p:Pl} (hi:S.l[i]?=some p) (h1:p.st=1) (h2:p.kind=2):(tb i).In m p.at_:=
 (t.tin i p hi h1 h2).kept (k1 i p hi h1 h2) fun k hk Aa=>k2 _ (t.leaf (Q1r hl hi) hk Aa)
theorem Q1M {S:CO} {fr:List Nat} {N K:Nat} (ok:S.Ok fr N K) {i:Nat} {p:Pl} (hi:S.l[i]?=some p) (h1:p.st=1) (h2:p.kind=2):p.at_∈S.P.usedOf 2:=by
 have:=ok.inv.mem.used (J4v hi) (Pl.is_iff.2 (.inl h1)) (by omega)
 rwa [h2] at this
theorem GotM.kept {P P':PL} {fr fr':List Nat} {own:Int} {k a:Nat} (g:GotM P fr own k a P' fr') (ok:P.Ok fr) {j b:Nat} (hb:b∈P.usedOf j):Kept P.a.mem P'.a.mem b (Q0c j):=by
 have:=(g.apart ok).1 j b hb;rw [g.mem];exact Q1E (by rw [J2r];exact g.room.1) (by rw [J2r];omega)
theorem Z9B:∀{l:List Int},(∀x∈l,0<=x)->0<=l.sum
 | [],_=>J6l _
 | x::r,h=>by
  have:=Z9B (l:=r) fun y hy=>h y (by simp [hy])
  have:=h x (by simp);rw [J5T];omega
theorem Z0M (l:List Pl) (tb:Nat->TB) (id:Int):0<=xcOf l tb id:=by
 refine Z9B fun x hx=>?_
 obtain⟨i,_,rfl⟩:=J2n.1 hx;unfold xcP;split
 ·split
  ·exact TB.cost_nn _
  ·exact J6l _
 ·exact J6l _
section
variable {S:CO} {fr:List Nat} {N K:Nat} {tb:Nat->TB} {own:Int} {xl xn:List Nat}
theorem TPX.got {n a:Nat} {P':PL} (ok:S.Ok fr N K) (t:TPX S tb own xl xn) (hn:n=6∨n=7) (g:GetOk S.P fr own n a P') (Ak:∃p∈S.l,p.st=1/\(p.fac:Int)=own) :
  (S.paid P' own ((Q0c n:Nat):Int)).Ok fr N K/\TPX (S.paid P' own ((Q0c n:Nat):Int)) tb own (if n=7 then a::xl else xl) (if n=6 then a::xn else xn):=by
 have gm:=g.gotM ok.inv.mem.pool;have Eb:costK n=Q0c n:=Q1T (by omega);obtain⟨e,q1,q2,q3⟩:=g.q;have TY:=(ok.inv.que.xc own).1;refine⟨ok.paid g.ok q1 q3 (fun j h1 h5=>g.other j (by omega)) (fun b hb=>?_) (by omega) (fun _=>Ak),?_,t.nil,?_,?_,fun id=>?_⟩
 ·have:=gm.kept ok.inv.mem.pool hb;exact (this.sub (b:=b) (k:=8) (J2h _) (by show b+8<=b+64;omega)).word
 ·intro i p hi h1 h2;refine t.tin_kept ok.inv.len (fun j q hj q1 q2=>?_) (fun b hb=>gm.kept ok.inv.mem.pool hb) hi h1 h2;exact gm.kept ok.inv.mem.pool (Q1M ok hj q1 q2)
 ·show (_++Q3k tb).Perm (P'.usedOf 7);by_cases h7:n=7
  ·subst h7;rw [if_pos rfl];exact (List.Perm.cons a t.lvs).trans (gm.used (by omega)).symm
  ·rw [if_neg h7,g.other 7 (by omega)];exact t.lvs
 ·show (_++Q4i tb).Perm (P'.usedOf 6);by_cases h6:n=6
  ·subst h6;rw [if_pos rfl];exact (List.Perm.cons a t.nds).trans (gm.used (by omega)).symm
  ·rw [if_neg h6,g.other 6 (by omega)];exact t.nds
 ·show (if id=own then S.xc id+_ else S.xc id)=xcOf S.l tb id+_;by_cases hid:id=own
  ·subst hid;rw [if_pos rfl,t.xc,if_pos rfl,if_pos rfl];rcases hn with rfl|rfl
   ·simp [Q5j];omega
   ·simp [Q2T];omega
  ·rw [if_neg hid,t.xc,if_neg hid,if_neg hid]
theorem TPX.put {n a:Nat} {P':PL} (ok:S.Ok fr N K) (hn:n=6∨n=7) (t:TPX S tb own (if n=7 then a::xl else xl) (if n=6 then a::xn else xn)) (g:PutOk S.P fr own n a P') (Ak:∃p∈S.l,p.st=1/\(p.fac:Int)=own) :
  (S.paid P' own (-((Q0c n:Nat):Int))).Ok fr N K/\TPX (S.paid P' own (-((Q0c n:Nat):Int))) tb own xl xn:=by
 have bm:=g.backM ok.inv.mem.pool;obtain⟨e,q1,q2,q3⟩:=g.q;have Aw:P'.a.mem=S.P.a.mem:=by rw [g.aa]
 have Nw:P'.q={S.P.q with E:=upd S.P.q.E own {e.q with charged:=e.q.charged + -((Q0c n:Nat):Int)}}:=by rw [q3,Int.sub_eq_add_neg]
 have TY:=Z0M S.l tb own;have JE:=t.xc own;rw [if_pos rfl] at JE;refine⟨ok.paid g.ok q1 Nw (fun j h1 h5=>g.other j (by omega)) (fun b hb=>by rw [Aw]) ?_ (fun _=>Ak),?_,t.nil,?_,?_,fun id=>?_⟩
 ·rcases hn with rfl|rfl
  ·simp [Q5j] at JE ⊢;omega
  ·simp [Q2T] at JE ⊢;omega
 ·intro i p hi h1 h2;show (tb i).In P'.a.mem p.at_;rw [Aw];exact t.tin i p hi h1 h2
 ·show (xl++Q3k tb).Perm (P'.usedOf 7);by_cases h7:n=7
  ·subst h7;have h1:=t.lvs;rw [if_pos rfl] at h1;exact J5U (h1.trans (bm.used (by omega)))
  ·have h1:=t.lvs;rw [if_neg h7] at h1;rw [g.other 7 (by omega)];exact h1
 ·show (xn++Q4i tb).Perm (P'.usedOf 6);by_cases h6:n=6
  ·subst h6;have h1:=t.nds;rw [if_pos rfl] at h1;exact J5U (h1.trans (bm.used (by omega)))
  ·have h1:=t.nds;rw [if_neg h6] at h1;rw [g.other 6 (by omega)];exact h1
 ·show (if id=own then S.xc id+_ else S.xc id)=xcOf S.l tb id+_;have hx:=t.xc id;by_cases hid:id=own
  ·subst hid;rw [if_pos rfl] at hx ⊢;rw [hx,if_pos rfl];rcases hn with rfl|rfl
   ·simp [Q5j];omega
   ·simp [Q2T];omega
  ·rw [if_neg hid] at hx ⊢;rw [hx,if_neg hid]
end
def updT (tb:Nat->TB) (i:Nat) (t:TB):Nat->TB:=fun j=>if j=i then t else tb j
theorem updT_same (tb:Nat->TB) (i:Nat) (t:TB):updT tb i t i=t:=by unfold updT;rw [if_pos rfl]
theorem Q0W {tb:Nat->TB} {i j:Nat} {t:TB} (h:j≠i):updT tb i t j=tb j:=by unfold updT;rw [if_neg h]
theorem Z1W (i:Nat) (hi:i<256):∃A B,List.range 256=A++i::B/\(∀j∈A,j≠i)/\∀j∈B,j≠i:=by
 have hm:i∈List.range 256:=J2x.2 hi;obtain⟨A,B,e⟩:=J6m hm;have AD:(List.range 256).Nodup:=J6b;rw [e] at AD;obtain⟨h1,h2,h3⟩:=J3a.1 AD;exact⟨A,B,e,fun j hj=>h3 j hj i (by simp),fun j hj h=>(J3d.1 h2).1 (h ▸ hj)⟩
theorem Q4K (f:TB->List Nat) (tb:Nat->TB) {i:Nat} (hi:i<256) (t:TB):∃A B,(List.range 256).flatMap (fun j=>f (tb j))=A++f (tb i)++B/\(List.range 256).flatMap (fun j=>f (updT tb i t j))=A++f t++B:=by
 obtain⟨A,B,e,h1,h2⟩:=Z1W i hi;refine⟨A.flatMap fun j=>f (tb j),B.flatMap fun j=>f (tb j),by rw [e];simp,?_⟩;have g1:A.flatMap (fun j=>f (updT tb i t j))=A.flatMap fun j=>f (tb j):=by
  rw [J6n,J6n];congr 1;exact J4q fun j hj=>by rw [Q0W (h1 j hj)]
 have g2:B.flatMap (fun j=>f (updT tb i t j))=B.flatMap fun j=>f (tb j):=by
  rw [J6n,J6n];congr 1;exact J4q fun j hj=>by rw [Q0W (h2 j hj)]
 rw [e,J2P,J2E,g1,g2,updT_same];simp
theorem Q9o {l:List Pl} {tb:Nat->TB} {i:Nat} (hi:i<256) {p:Pl} (hp:l[i]?=some p) (t:TB) (id:Int):xcOf l (updT tb i t) id=xcOf l tb id+if (p.fac:Int)=id then t.cost-(tb i).cost else 0:=by
 obtain⟨A,B,e,h1,h2⟩:=Z1W i hi;unfold xcOf;rw [e];simp only [J5K,J2k,J5V,J5T];have g1:A.map (fun j=>xcP (updT tb i t) id j l[j]?)=A.map fun j=>xcP tb id j l[j]?:=J4q fun j hj=>by unfold xcP;rw [Q0W (h1 j hj)]
 have g2:B.map (fun j=>xcP (updT tb i t) id j l[j]?)=B.map fun j=>xcP tb id j l[j]?:=J4q fun j hj=>by unfold xcP;rw [Q0W (h2 j hj)]
 rw [g1,g2];have e1:∀tb',xcP tb' id i l[i]?=if (p.fac:Int)=id then (tb' i).cost else 0:=fun tb'=>by unfold xcP;rw [hp]
 rw [e1,e1,updT_same];split <;> omega
end Go.Proofs.YtlakjlmaboioiaaGreatDoor
namespace Go.Proofs.YtlakjlmaboioiaaGreatDoor
open Go.Proofs.Tryz
structure Fst3 (kd:Int->List Int) (rk:Int->Nat):Prop where
 dn:∀h x,x∈kd h->rk x<rk h
 one:∀a b x,x∈kd a->x∈kd b->a=b
 nd:∀h,(kd h).Nodup
def preG (kd:Int->List Int):Nat->Int->List Int
 | 0,h=>[h]
 | n+1,h=>h::(kd h).reverse.flatMap (preG kd n)
section
variable {kd:Int->List Int} {rk:Int->Nat}
theorem Q6p {f g:Int->List Int}:∀{L:List Int},(∀x∈L,f x=g x)->L.flatMap f=L.flatMap g
 | [],_=>rfl
 | x::r,h=>by rw [J2E,J2E,h x (by simp),Q6p (L:=r) fun y hy=>h y (by simp [hy])]
theorem Fst3.leaf (t:Fst3 kd rk) {h:Int} (hr:rk h=0):kd h=[]:=by
 cases hk:kd h with
 | nil=>rfl
 | cons x r =>
  have:=t.dn h x (by rw [hk];simp);omega
theorem Q6q (t:Fst3 kd rk):∀n m h,rk h<=n->rk h<=m->preG kd n h=preG kd m h:=by
 intro n
 induction n with
 | zero =>
  intro m h h1 h2;have hk:=t.leaf (J2F.1 h1);cases m with
  | zero=>rfl
  | succ m=>simp [preG,hk]
 | succ n ih =>
  intro m h h1 h2;cases m with
  | zero =>
   have hk:=t.leaf (J2F.1 h2);simp [preG,hk]
  | succ m =>
   simp only [preG];congr 1;refine Q6p fun x hx=>?_
   have:=t.dn h x (J2G.1 hx);exact ih m x (by omega) (by omega)
def preT (kd:Int->List Int) (rk:Int->Nat) (h:Int):List Int:=preG kd (rk h) h
theorem Z0N (t:Fst3 kd rk) (h:Int):preT kd rk h=h::(kd h).reverse.flatMap (preT kd rk):=by
 have:preT kd rk h=preG kd (rk h+1) h:=Q6q t _ _ h (J2h _) (by omega);rw [this];simp only [preG];congr 1;refine Q6p fun x hx=>?_
 have:=t.dn h x (J2G.1 hx);exact Q6q t _ _ x (by omega) (J2h _)
def Q0H (kd:Int->List Int) (rk:Int->Nat) (h:Int):List Int:=(preT kd rk h).tail.reverse
theorem Q3H (t:Fst3 kd rk) (h:Int):preT kd rk h=h::(Q0H kd rk h).reverse:=by
 unfold Q0H;rw [J2T,Z0N t h];rfl
inductive Dn (kd:Int->List Int):Int->Int->Prop where
 | here (h:Int):Dn kd h h
 | down (h k x:Int):k∈kd h->Dn kd k x->Dn kd h x
theorem Dn.trans {h k x:Int} (a:Dn kd h k) (b:Dn kd k x):Dn kd h x:=by
 induction a with
 | here=>exact b
 | down h k y hk _ ih=>exact .down h k x hk (ih b)
theorem Dn.rank (t:Fst3 kd rk) {h x:Int} (a:Dn kd h x):rk x<=rk h/\(x=h∨rk x<rk h):=by
 induction a with
 | here=>exact⟨J2h _,.inl rfl⟩
 | down h k y hk _ ih =>
  have:=t.dn h k hk;have:=ih.1;exact⟨by omega,.inr (by omega)⟩
theorem Q5O (t:Fst3 kd rk):∀n h x,rk h<=n->(x∈preG kd n h↔Dn kd h x):=by
 intro n
 induction n with
 | zero =>
  intro h x hn;have hk:=t.leaf (J2F.1 hn);simp only [preG,J4o]
  constructor
  ·rintro rfl;exact .here _
  ·intro d;cases d with
   | here=>rfl
   | down _ k _ hm _=>rw [hk] at hm;cases hm
 | succ n ih =>
  intro h x hn;simp only [preG,J2m,J2H,J2G]
  constructor
  ·rintro (rfl|⟨k,hk,hx⟩)
   ·exact .here _
   ·have:=t.dn h k hk;exact .down h k x hk ((ih k x (by omega)).1 hx)
  ·intro d;cases d with
   | here=>exact .inl rfl
   | down _ k _ hm hd =>
    have:=t.dn h k hm;exact .inr ⟨k,hm,(ih k x (by omega)).2 hd⟩
theorem Z1X (t:Fst3 kd rk) {h x:Int}:x∈preT kd rk h↔Dn kd h x:=Q5O t _ h x (J2h _)
theorem Dn.line (t:Fst3 kd rk) {a x:Int} (h:Dn kd a x):∀{b:Int},Dn kd b x->Dn kd a b∨Dn kd b a:=by
 -- the last step down to x
 have last:∀{a x:Int},Dn kd a x->x=a∨∃z,Dn kd a z/\x∈kd z:=by
  intro a x h
  induction h with
  | here=>exact .inl rfl
  | down h k y hk _ ih =>
   rcases ih with rfl|⟨z,h1,h2⟩
   ·exact .inr ⟨h,.here _,hk⟩
   ·exact .inr ⟨z,.down h k z hk h1,h2⟩
 have key:∀n a b x,rk a-rk x<=n->Dn kd a x->Dn kd b x->Dn kd a b∨Dn kd b a:=by
  intro n
  induction n with
  | zero =>
   intro a b x hn h k;rcases (h.rank t).2 with rfl|Ab
   ·exact .inr k
   ·omega
  | succ n ih =>
   intro a b x hn h k;rcases last h with rfl|⟨z,h1,h2⟩
   ·exact .inr k
   ·rcases last k with rfl|⟨z',k1,k2⟩
    ·exact .inl h
    ·have:z=z':=t.one z z' x h2 k2;subst this;have:=t.dn z x h2;have:=(h1.rank t).1;exact ih a b z (by omega) h1 k1
 intro b k;exact key _ a b x (J2h _) h k
theorem Dn.last {a x:Int} (h:Dn kd a x):x=a∨∃z,Dn kd a z/\x∈kd z:=by
 induction h with
 | here=>exact .inl rfl
 | down h k y hk _ ih =>
  rcases ih with rfl|⟨z,h1,h2⟩
  ·exact .inr ⟨h,.here _,hk⟩
  ·exact .inr ⟨z,.down h k z hk h1,h2⟩
theorem Q7A (t:Fst3 kd rk) {h a b x:Int} (ha:a∈kd h) (hb:b∈kd h) (Aa:a≠b) (h1:Dn kd a x) (h2:Dn kd b x):False:=by
 have no:∀{a b:Int},a∈kd h->b∈kd h->a≠b->¬Dn kd a b:=by
  intro a b ha hb Aa d;rcases d.last with e|⟨z,d1,d2⟩
  ·exact Aa e.symm
  ·have:z=h:=t.one z h b d2 hb;subst this;have:=(d1.rank t).1;have:=t.dn z a ha;omega
 rcases h1.line t h2 with h|h
 ·exact no ha hb Aa h
 ·exact no hb ha Aa.symm h
theorem Z6n (t:Fst3 kd rk):∀n h,rk h<=n->(preG kd n h).Pairwise (fun a b=>a≠b/\¬Dn kd b a):=by
 intro n
 induction n with
 | zero=>intro h _;simp [preG]
 | succ n ih =>
  intro h hn;simp only [preG,J2I,J2J];refine⟨fun b hb=>?_,fun x hx=>?_,?_⟩
  ·obtain⟨k,hk,Al⟩:=J2H.1 hb;have hk:=J2G.1 hk;have h1:=t.dn h k hk;have hd:=(Q5O t n k b (by omega)).1 Al;have h2:=(hd.rank t).1;refine⟨fun e=>by subst e;omega,fun d=>?_⟩;have:=(d.rank t).1;omega
  ·have:=t.dn h x (J2G.1 hx);exact ih x (by omega)
  ·rw [J2K];refine (t.nd h).imp_of_mem ?_;intro x1 x2 m1 m2 Aa a ha b hb;have r1:=t.dn h x1 m1;have r2:=t.dn h x2 m2;have d1:=(Q5O t n x2 a (by omega)).1 ha;have d2:=(Q5O t n x1 b (by omega)).1 hb;refine⟨?_,fun d=>?_⟩
   ·rintro rfl;exact Q7A t m1 m2 Aa d2 d1
   ·exact Q7A t m1 m2 Aa (d2.trans d) d1
theorem Q6r (t:Fst3 kd rk) (h:Int):(preT kd rk h).Pairwise (fun a b=>a≠b/\¬Dn kd b a):=Z6n t _ h (J2h _)
theorem Q7B (t:Fst3 kd rk) {h x:Int}:x∈Q0H kd rk h↔Dn kd h x/\x≠h:=by
 have e:=Q3H t h;have hp:=Q6r t h;rw [e] at hp;obtain⟨h1,_⟩:=J2I.1 hp;have hm:x∈preT kd rk h↔x=h∨x∈Q0H kd rk h:=by rw [e];simp
 rw [<- Z1X t,hm]
 constructor
 ·intro hx;exact⟨.inr hx,fun e=>(h1 x (by simpa using hx)).1 e.symm⟩
 ·rintro⟨h|h,Aa⟩
  ·exact absurd h Aa
  ·exact h
theorem Z3k (t:Fst3 kd rk) (h:Int):(Q0H kd rk h).Pairwise (fun a b=>a≠b/\¬Dn kd a b):=by
 have hp:=Q6r t h;rw [Q3H t h] at hp;have:=(J2I.1 hp).2;rw [J2K] at this;exact this.imp fun ⟨h1,h2⟩=>⟨h1.symm,h2⟩
def Q9p (kd:Int->List Int) (rk:Int->Nat) (ws:List Int):List Int:=ws.reverse.flatMap (preT kd rk)
theorem Z3l (t:Fst3 kd rk) (ws:List Int) (x:Int):Q9p kd rk (ws++[x])=x::Q9p kd rk (ws++kd x):=by
 unfold Q9p;rw [J2N,J2N,J2O,J2P,J2P,J2Q,Z0N t x];rfl
theorem Z6o (kd:Int->List Int) (rk:Int->Nat) (t:Fst3 kd rk) (ws:List Int):ws.length<=(Q9p kd rk ws).length:=by
 unfold Q9p;have:∀w:List Int,w.length<=(w.flatMap (preT kd rk)).length:=by
  intro w
  induction w with
  | nil=>simp
  | cons x r ih =>
   rw [J2E,J2R,J2S];have:0<(preT kd rk x).length:=by rw [Z0N t x];simp
   omega
 simpa using this ws.reverse
end
end Go.Proofs.YtlakjlmaboioiaaGreatDoor
