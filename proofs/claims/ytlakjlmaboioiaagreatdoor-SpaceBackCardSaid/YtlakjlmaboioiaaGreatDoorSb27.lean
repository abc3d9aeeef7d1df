/- SpaceBack returns true at every input. No condition. Part of its proof. -/
import Derived.Test.YtlakjlmaboioiaaGreatDoorSb01
import Derived.Test.YtlakjlmaboioiaaGreatDoorSb26
import Derived.Test.YtlakjlmaboioiaaGreatDoorSb25
import Derived.Test.YtlakjlmaboioiaaGreatDoorSb10
import Derived.Test.YtlakjlmaboioiaaGreatDoorSb14
import Derived.Great.Ranges
import Derived.Test.YtlakjlmaboioiaaGreatDoorSb24
import Derived.Test.YtlakjlmaboioiaaGreatDoorSb19
import Derived.Test.YtlakjlmaboioiaaGreatDoorSb20
import Derived.Deep.CutRange
import Derived.Deep.LoopGhost
import Derived.Test.YtlakjlmaboioiaaGreatDoorSb16
import Derived.Test.YtlakjlmaboioiaaGreatDoorSb21
set_option maxHeartbeats 4000000
set_option maxRecDepth 100000
set_option linter.unusedVariables false
namespace Go.Proofs.YtlakjlmaboioiaaGreatDoor
open Go.RowKit Go.Proofs.Tryz
theorem Q8m {P:Program} {ops:Array Oper} {rest:List Oper} {o:Oper} {a:Act} {w:World} {Q:Exit->Act->World->Prop} (hg:o.guard=none) (t:TypeId) (ho:o.op=.build t #[]) (dst:Option Tmp) (hdst:o.dst=dst) (cells:Array Value)
  (hb:P.built t []=some cells)
  (h:wpList P ops Q rest (a.put dst (.agg cells)) w):wpList P ops Q (o::rest) a w:=by
 subst hdst;have e:(Array.map (fun (x:Nat×Operand)=>match x with|(i,x)=>(i,a.eval x)) #[]).toList=[]:=by simp
 refine wpList_build hg t #[] ho (by rw [e,hb];rfl) ?_;rw [e,hb];exact h
def tabZ:List Value:=(List.replicate 256 (noPl 0)).flatMap Pl.cells
theorem Z3X:prog.built 264 (([]:List (Nat×Value)))=some tabZ.toArray:=by kernel_rfl
theorem Z3Y:(Value.agg tabZ.toArray).cells=tabZ.toArray:=by kernel_rfl
def J1W (H:HL) (w:World) (r:Ending) (w':World):Prop:=∃t,r=.returned (.pointer (some ⟨t,0,none⟩))/\Step H ((⟨t,List.replicate 256 (noPl 0)⟩:HT).hl++H) w w'
theorem Z9m {w:World} {H:HL} (h:Sep w H):Calls prog 63 #[] w (J1W H w):=by
 have HR:Hid (J1W H w (.returned (.pointer (some ⟨w.heap.size,0,none⟩))) (w.alloc (.cells tabZ.toArray 264))):=⟨_,rfl,h.new 264 tabZ⟩
 clear h;have hz:=Z3X;have hc:=Z3Y;generalize tabZ.toArray=Z at *
 go_enter func63,ntmps63
 repeat (first|refine Q8m rfl 264 rfl _ rfl Z hz ?_|refine Go.Great.wpList_boxTo rfl 264 _ rfl _ rfl _ rfl Z hc ?_|go_step)
 first|exact HR.out|(go_ret;exact HR.out)
theorem Z7b (top k i:Nat):fre (uOf []) top k i=(k==top):=by
 have hc:∀k i,clr (uOf []) k i=true:=fun k i=>(clr_iff _ _ _).2 fun p _=>by simp [uOf]
 unfold fre;rw [hc,hc];simp
theorem Z2o (top:Nat):(∀k,k<top->fstG (fre (uOf []) top) top k 0=none)/\fstG (fre (uOf []) top) top top 0=some 0:=by
 refine⟨fun k hk=>Q5N fun i _ hi=>?_,Q5M ?_ (J2x _) ?_ fun i h0 h1=>by omega⟩
 ·rw [J4i];have:i<2 ^ (top-k):=by simpa using hi
  rw [J4k this];show (fre (uOf []) top k i)≠true;rw [Z7b];simp;omega
 ·simp
 ·rw [J5P];show ((List.map _ [0])[0]?).getD false=true;show fre (uOf []) top top 0=true;rw [Z7b];simp
theorem Z7c {c:CA} {d:BD} {a:Nat} {ps':List Nat} (hpg:c.pg=[]) (hps:d.ps=[]) (h:J1D c d a ps'):a=64/\ps'=[0]:=by
 rcases h with ⟨k,x,i,hx,_⟩|⟨_,k0,i0,hk,hf,hp,ha,hq⟩
 ·rw [hpg] at hx;simp at hx
 ·rw [hps] at hf hp;obtain⟨f1,f2⟩:=Z2o d.top;have hk6:k0=d.top:=by
   rcases J5f k0 d.top with e|e
   ·rw [f1 k0 e] at hf;cases hf
   ·omega
  subst hk6;rw [f2] at hf;cases hf;rw [hps] at hq;exact⟨by rw [ha];unfold addr;omega,by rw [hq];simp⟩
theorem Z1d {P:PL} {n:Nat} (hps:P.d.ps=[]):¬NoRoom P n:=by
 rintro⟨c,hc,_,hn⟩;rw [hps] at hn;have:=hn P.d.top (J2x _);rw [(Z2o P.d.top).2] at this;cases this
theorem Z9n {w:World} {P:PL} (h:Sep w P.hl) {top:Nat} {limit:Int} (hf:FreshP P top limit) (hl:P.cs.length=7) (h1:6<=top) (h0:64<=limit) (hm:limit<=1073741824) :
  Calls prog 65 #[.pointer (some ⟨P.p,0,none⟩),.int .i64 0,.int .i64 1] w fun r w'=>r=.returned (.tuple #[.int .i64 64,.int .i64 0])/\∃P',GotM P [] 0 1 64 P' []/\P'.d.ps=[0]/\(∃b,P'.q.E=[⟨0,b,⟨limit,64,0,-1,0⟩⟩])/\P'.q.next=1/\Step P.hl P'.hl w w':=by
 have ok:=hf.ok hl h1 (by omega) hm;have hpg:=Z8t ok fun j=>Q7j hf j
 obtain⟨t,m,b,hq⟩:=hf.q;have hfe:find P.q.E 0=some ⟨0,b,⟨limit,0,0,-1,0⟩⟩:=by rw [hq];rfl
 refine (Q5B h ok 0 1).mono ?_;rintro r w' (⟨h0,_⟩|⟨_,h0,_⟩|⟨_,⟨e',h2,h3⟩,_⟩|⟨n,e',hn,_,_,h2,_,hr⟩)
 ·exact absurd h0 (by decide)
 ·rw [hfe] at h0;cases h0
 ·rw [hfe] at h2;cases h2;have:((Q1j 1:Nat):Int)=64:=rfl;rw [this] at h3;simp at h3;omega
 ·have hn1:n=1:=by omega
  subst hn1;rcases hr with ⟨a,P',rfl,g,hst⟩|⟨hno,_⟩
  ·obtain⟨c,_,hc,_,ht⟩:=g.which;obtain⟨rfl,hps'⟩:=Z7c (hpg _ c hc.2) hf.ps ht.which;have gm:=g.gotM ok;obtain⟨hacc,hE,hnx,_⟩:=gm.acc (own:=0) hfe;refine⟨rfl,P',gm,hps',⟨b,?_⟩,?_,hst⟩
   ·rw [hE,hq];simp [Q2u,upd,costK,Q0c]
   ·rw [hnx,hq];rfl
  ·exact absurd hno (Z1d hf.ps)
structure Q6F (S:CO) (top:Nat) (limit:Int) (period:Nat):Prop where
 ok:S.Ok [] 1 0
 l:S.l=newL 64
 ts:S.ts=[]
 now:S.now=0
 period:S.period=period
 top:S.P.d.top=top
 next:S.P.q.next=1
 ps:S.P.d.ps=[0]
 q:∃b,S.P.q.E=[⟨0,b,⟨limit,64,0,-1,0⟩⟩]
 xc:S.xc=x0
 high:∀j,2<=j->S.P.usedOf j=[]
def Z7d (top:Nat) (limit:Int) (period:Nat) (H:HL) (w:World) (r:Ending) (w':World):Prop:=∃S:CO,r=.returned (.pointer (some ⟨S.c,0,none⟩))/\Q6F S top limit period/\Step H (S.hl++H) w w'
theorem J0Y:LOk (List.replicate 256 (noPl 0)):=⟨J2H,fun p hp=>by rw [J2F hp];exact⟨J4z _,J4z _⟩⟩
theorem Z9o:Fst (List.replicate 256 (noPl 0)) 0 (noPl 0):=⟨rfl,rfl,fun j q h _=>by omega⟩
theorem Z7e {w w1 w2 w3:World} {H:HL} {P:PL} {top period:Nat} {limit:Int} {t g:Nat} (hf:FreshP P top limit) (hl:P.cs.length=7) (h1:6<=top) (h0:64<=limit) (hm:limit<=1073741824) (hp1:1<=period) (hp2:period<=16)
  (s1:Step H (P.hl++H) w w1) (s2:Step (P.hl++H) ((⟨t,List.replicate 256 (noPl 0)⟩:HT).hl++(P.hl++H)) w1 w2) (s3:Step ((⟨t,List.replicate 256 (noPl 0)⟩:HT).hl++(P.hl++H)) (qhl g period 0 none []++((⟨t,List.replicate 256 (noPl 0)⟩:HT).hl++(P.hl++H))) w2 w3) :
  (w3.alloc (.cells #[.pointer (some ⟨P.p,0,none⟩),.pointer (some ⟨t,0,none⟩),.pointer (some ⟨g,0,none⟩)] 142)).cell? ⟨w3.heap.size,0,none⟩=some (.pointer (some ⟨P.p,0,none⟩)) /\
  (w3.alloc (.cells #[.pointer (some ⟨P.p,0,none⟩),.pointer (some ⟨t,0,none⟩),.pointer (some ⟨g,0,none⟩)] 142)).cell? ⟨w3.heap.size,2,none⟩=some (.pointer (some ⟨g,0,none⟩)) /\
  Calls prog 65 #[.pointer (some ⟨P.p,0,none⟩),.int .i64 0,.int .i64 1] (w3.alloc (.cells #[.pointer (some ⟨P.p,0,none⟩),.pointer (some ⟨t,0,none⟩),.pointer (some ⟨g,0,none⟩)] 142)) fun r w4=>r=.returned (.tuple #[.int .i64 64,.int .i64 0])/\w4.cell? ⟨w3.heap.size,1,none⟩=some (.pointer (some ⟨t,0,none⟩)) /\
   Calls prog 66 #[.pointer (some ⟨t,0,none⟩),.agg #[.int .i64 1,.int .i64 64,.int .i64 0]] w4 fun r w5=>(∃x y:Value,r=.returned (.tuple #[x,y]))/\Z7d top limit period H w (.returned (.pointer (some ⟨w3.heap.size,0,none⟩))) w5:=by
 have s123:=(s1.trans s2).trans s3;have s4:=s123.trans (s123.sep.new 142 [.pointer (some ⟨P.p,0,none⟩),.pointer (some ⟨t,0,none⟩),.pointer (some ⟨g,0,none⟩)]);have hc:=Cells.new w3 142 [.pointer (some ⟨P.p,0,none⟩),.pointer (some ⟨t,0,none⟩),.pointer (some ⟨g,0,none⟩)];obtain⟨S,hS⟩:∃S:CO,S=⟨w3.heap.size,P,t,List.replicate 256 (noPl 0),g,period,0,none,[],x0⟩:=⟨_,rfl⟩
 have hperm:((w3.heap.size,isC 142 [.pointer (some ⟨P.p,0,none⟩),.pointer (some ⟨t,0,none⟩),.pointer (some ⟨g,0,none⟩)])::(qhl g period 0 none []++((⟨t,List.replicate 256 (noPl 0)⟩:HT).hl++(P.hl++H)))).Perm (S.hl++H):=by
  refine Q1f fun a=>?_
  rw [hS];simp only [CO.hl,CO.head,CO.ht,CO.qh,hc_append,hc_cons,ptr];omega
 have s5:=s4.perm (J5R _) hperm;have sS:Sep (w3.alloc (.cells #[.pointer (some ⟨P.p,0,none⟩),.pointer (some ⟨t,0,none⟩),.pointer (some ⟨g,0,none⟩)] 142)) S.hl:=s5.sep.left;refine⟨hc.cell 0 _ rfl,hc.cell 2 _ rfl,?_⟩;have sP:=CO.sP sS;have eP:S.P=P:=by rw [hS]
 rw [eP] at sP;refine (Z9n sP hf hl h1 h0 hm).mono ?_;rintro r w4 ⟨rfl,P',gm,hps,hq,hnx,st⟩;have st':Step S.hl (S.setP P').hl _ w4:=CO.stepP sS P' (by rw [gm.same.p,hS]) (by rw [hS];exact st);have c1:=CO.c1 st'.sep;have hput:=Z6h (h:=(S.setP P').ht) (CO.sT st'.sep) (by rw [hS];exact J0Y) (i:=0) (p:=noPl 0) (by rw [hS];exact Z9o) 1 64 0 0;have ect:S.t=t:=by rw [hS]
 have ecc:S.c=w3.heap.size:=by rw [hS]
 have c1':w4.cell? ⟨w3.heap.size,1,none⟩=some (.pointer (some ⟨t,0,none⟩)):=by
  rw [<- ect,<- ecc];exact c1
 refine⟨rfl,c1',?_⟩;have hput':Calls prog 66 #[.pointer (some ⟨t,0,none⟩),.agg #[.int .i64 1,.int .i64 64,.int .i64 0]] w4 (PutT (S.setP P').ht ⟨1,64,0,1,(noPl 0).age,0⟩ 0 w4):=by
  rw [<- ect];exact hput
 refine hput'.mono ?_;rintro r w5 ⟨rfl,st5⟩;refine⟨⟨_,_,rfl⟩,(S.setP P').setL (newL 64),by show _=Ending.returned (.pointer (some ⟨S.c,0,none⟩));rw [ecc],?_,?_⟩
 ·have hinv:=J0B hf hl h1 (by omega) hm gm;refine⟨⟨?_,?_,?_,?_,?_,?_,?_,?_⟩,rfl,?_,?_,?_,?_,hnx,hps,hq,by show S.xc=x0;rw [hS],fun j hj=>?_⟩
  ·show Inv P' (newL 64) [] S.xc (S.ts.map Prod.fst);rw [hS];exact hinv
  ·show 1<=S.period/\_;rw [hS];exact⟨hp1,hp2⟩
  ·show ∀x∈S.ts,_;rw [hS];exact fun x hx=>by cases hx
  ·show S.ts.Pairwise _;rw [hS];exact .nil
  ·show ovOk S.rv S.ts.length;rw [hS];exact rfl
  ·show P'.q.next<=_;rw [hnx];decide
  ·show S.now<=0;rw [hS];exact J2x _
  ·intro p hp;rcases Q2G hp with rfl|rfl <;> exact J4z _
  ·show S.ts=[];rw [hS]
  ·show S.now=0;rw [hS]
  ·show S.period=period;rw [hS]
  ·show P'.d.top=top;rw [gm.same.top,hf.etop]
  ·show P'.usedOf j=[];rw [gm.other j (by omega)];unfold PL.usedOf;split
   ·split
    ·rename_i c hc;unfold CA.used;rw [(hf.cs _ c hc).2.2.2];rfl
    ·rfl
   ·rfl
 ·have e1:(S.setP P').ht.l.set 0 ⟨1,64,0,1,(noPl 0).age,0⟩=newL 64:=by rw [hS];rfl
  have st6:Step (S.setP P').hl ((S.setP P').setL (newL 64)).hl w4 w5:=by
   have:=CO.stepL (S:=S.setP P') st'.sep _ st5;rw [e1] at this;exact this
  have f1:=Step.frame [] H (by simpa using s5.sep) (st'.trans st6);simp only [J4H] at f1;exact s5.trans f1
theorem Q8n {w:World} {H:HL} (h:Sep w H) (top:Nat) (h1:6<=top) (h2:top<=20) (limit:Int) (h0:64<=limit) (hl:limit<=((2 ^ (top+10):Nat):Int)) (period:Nat) (hp1:1<=period) (hp2:period<=16) :
  Calls prog 15 #[.int .i64 ((2 ^ (top+10):Nat):Int),.int .i64 limit,.int .i64 period] w (Z7d top limit period H w):=by
 have b2:2 ^ (top+10)<=1073741824:=J2y (J3L (by omega) (by omega)) (by decide:2 ^ 30<=1073741824);have k1:=Z8r h top h1 h2 limit (by omega) hl;have HQ:Hid (∀r w1,J0A top limit H w r w1->∃pp,r=.returned (.pointer (some ⟨pp,0,none⟩))/\Calls prog 63 #[] w1 fun r w2=>∃t,r=.returned (.pointer (some ⟨t,0,none⟩)) /\
   Calls prog 64 #[.int .i64 period] w2 fun r w3=>∃g,r=.returned (.pointer (some ⟨g,0,none⟩)) /\
    (w3.alloc (.cells #[.pointer (some ⟨pp,0,none⟩),.pointer (some ⟨t,0,none⟩),.pointer (some ⟨g,0,none⟩)] 142)).cell? ⟨w3.heap.size,0,none⟩=some (.pointer (some ⟨pp,0,none⟩)) /\
    (w3.alloc (.cells #[.pointer (some ⟨pp,0,none⟩),.pointer (some ⟨t,0,none⟩),.pointer (some ⟨g,0,none⟩)] 142)).cell? ⟨w3.heap.size,2,none⟩=some (.pointer (some ⟨g,0,none⟩)) /\
    Calls prog 65 #[.pointer (some ⟨pp,0,none⟩),.int .i64 0,.int .i64 1] (w3.alloc (.cells #[.pointer (some ⟨pp,0,none⟩),.pointer (some ⟨t,0,none⟩),.pointer (some ⟨g,0,none⟩)] 142)) fun r w4=>r=.returned (.tuple #[.int .i64 64,.int .i64 0])/\w4.cell? ⟨w3.heap.size,1,none⟩=some (.pointer (some ⟨t,0,none⟩)) /\
     Calls prog 66 #[.pointer (some ⟨t,0,none⟩),.agg #[.int .i64 1,.int .i64 64,.int .i64 0]] w4 fun r w5=>(∃x y:Value,r=.returned (.tuple #[x,y]))/\Z7d top limit period H w (.returned (.pointer (some ⟨w3.heap.size,0,none⟩))) w5):=by
  rintro r w1 ⟨P,rfl,hlen,hf,s1⟩;refine⟨P.p,rfl,(Z9m s1.sep).mono ?_⟩;rintro r w2 ⟨t,rfl,s2⟩;refine⟨t,rfl,(Z8G s2.sep period hp1 hp2).mono ?_⟩;rintro r w3 ⟨g,rfl,s3⟩;exact⟨g,rfl,Z7e hf hlen h1 h0 (by omega) hp1 hp2 s1 s2 s3⟩
 generalize Z7d top limit period H w=Q at *
 clear h;go_enter func15,ntmps15;go_wp2_with fail;refine k1.mono ?_;intro r w1 hx;obtain⟨pp,rfl,ht⟩:=HQ.out _ _ hx;have HT:=Q0a ht;clear hx ht HQ k1;go_wp2_with fail;refine HT.out.mono ?_;rintro r w2 ⟨t,rfl,hg⟩;have HG:=Q0a hg;clear hg HT;go_wp2_with fail;refine HG.out.mono ?_;rintro r w3 ⟨g,rfl,c0,c2,hget⟩;have HGet:=Q0a hget;clear hget HG;go_wp2_with fail;refine HGet.out.mono ?_;rintro r w4 ⟨rfl,c1,hput⟩;have HPut:=Q0a hput;clear hput HGet c0 c2;go_wp2_with fail;refine HPut.out.mono ?_;rintro r w5 ⟨⟨x,y,rfl⟩,hq⟩;have HX:=Q0a hq;clear hq HPut c1;go_wp2_with fail
 first|exact HX.out|(go_ret;exact HX.out)
def Aside (H:HL) (L:List Nat) (a:Option Addr) (w:World):Prop:=∀(j x:Nat),L[j]?=some x->∃g,a=some ⟨g,0,none⟩/\g∉keys H/\g<w.heap.size/\w.cell? ⟨g,j,none⟩=some (.int .u32 x)
theorem Aside.step {H H':HL} {L:List Nat} {a:Option Addr} {w w':World} (h:Aside H L a w) (st:Step H H' w w'):Aside H' L a w':=fun j x hj=>by
 obtain⟨g,h1,h2,h3,h4⟩:=h j x hj;refine⟨g,h1,fun hk=>?_,J2z h3 st.chg.size,(World.cell?_of_block (w:=w) (st.chg.block g h3 h2)).trans h4⟩;rcases st.new g hk with h'|h'
 ·exact h2 h'
 ·omega
theorem NewHs.aside {w w':World} {H:HL} {L:List Nat} {r:Ending} (h:NewHs w L r w') (hs:Sep w H):∃(a:Option Addr) (cap:Nat),r=.returned (.slice a L.length cap)/\Below w.heap.size w w'/\Aside H L a w':=by
 obtain⟨a,cap,e,hb,hi⟩:=h.shape;refine⟨a,cap,e,hb,fun j x hj=>?_⟩;obtain⟨g,h1,h2,h3,h4⟩:=hi.at' j x hj;exact⟨g,h1,fun hk=>by have:=hs.lt hk;omega,h3,h4⟩
theorem OutH.app {w wr:World} {v:Value} {L:List Nat} (h:OutH w wr v L) (hl:L.length<=16777216) (x:Nat) (ty:TypeId):∃v' w',(Builtin.append_ #[66,66] ty #[v,.slice (some ⟨wr.heap.size,0,none⟩) 1 1]).run prog (wr.alloc (.cells #[.int .u32 x] 27))=.ok v' w'/\OutH w w' v' (L++[x]):=by
 obtain⟨i0,hi,hz0,hz1,hz2⟩:=info_parts Q3B;have h2:=h.below ((Below.refl _ _).alloc (J2x _) (.cells #[.int .u32 x] 27));obtain⟨v',w',hr,q1,q2,_,q4⟩:=run_append_own_at (P:=prog) (wr.alloc (.cells #[.int .u32 x] 27)) w.heap.size 66 ty 27 i0 (.int .u32 0) 1 4 underlying66 hi hz0 hz1 hz2 rfl (by decide) v L.length (Q1h L) h2.1 ⟨wr.heap.size,0,none⟩ 1 1 [.int .u32 x] rfl (by
  intro j u hj;have:=(Cells.new wr 27 [.int .u32 x]).cell j u hj;have e:(⟨wr.heap.size,0,none⟩:Addr).add j=⟨wr.heap.size,j,none⟩:=by unfold Addr.add;split <;> simp_all
  rw [e];exact this) (fun u hu=>by rw [J4E.1 hu];rfl) (by unfold maxLen;omega) (by omega) h2.2.size
 refine⟨v',w',hr,?_,?_⟩
 ·rw [J3h,hands_app];exact q1
 ·exact h2.2.trans ((Below.refl _ _).mono h2.2.size |>.grown q2 h2.2.size (fun b hb=>(h2.1.lt b hb).1))
def Q8o (S:CO) (h:Nat):List Nat:=Q0K S.l S.P.q.next.toNat h++[h]
def KillR (Z:SP) (fr:List Nat) (N K:Nat) (M:Int) (h:Nat) (w:World) (r:Ending) (w':World):Prop:=
 (pget Z.S.l 1 h=none/\r=.returned (.tuple #[.slice none 0 0,.int .i64 8])/\Below w.heap.size w w') ∨
 (h=0/\r=.returned (.tuple #[.slice none 0 0,.int .i64 1])/\Below w.heap.size w w') ∨
 (h≠0/\(∃p,pget Z.S.l 1 h=some p)/\∃(a:Option Addr) (cap:Nat),r=.returned (.tuple #[.slice a (Q8o Z.S h).length cap,.int .i64 0])/\∃Z',KillI Z fr N K M (Q8o Z.S h) Z'/\Step Z.hl Z'.hl w w'/\Aside Z'.hl (Q8o Z.S h) a w')
theorem Z3Z {wr w:World} {Z Z1:SP} {fr:List Nat} {N K:Nat} {M:Int} {A:List Nat} (hK:K<=1048576) (hlz:Z.S.l.length<=256) (I:KillI Z fr N K M A Z1) (st:Step Z.hl Z1.hl w wr) {x:Nat} (hx:x<4294967296) {q:Pl} (hq:pget Z.S.l 1 x=some q) (h0:x≠0) (hA:x∉A) (hk:∀y∈kids Z.S.l x,y∈A) :
  Calls prog 40 #[.pointer (some ⟨Z.s,0,none⟩),.int .u32 x] wr fun r w2=>∃v:Value,r=.returned v /\
   Calls prog 39 #[.pointer (some ⟨Z.s,0,none⟩),.int .u32 x] w2 fun r w3=>∃v:Value,r=.returned v/\w3.cell? ⟨Z.s,0,none⟩=some (.pointer (some ⟨Z.S.c,0,none⟩)) /\
    Calls prog 98 #[.pointer (some ⟨Z.S.c,0,none⟩),.int .u32 x] w3 fun r w4=>∃v:Value,r=.returned v/\∃Z4,KillI Z fr N K M (A++[x]) Z4/\Step Z1.hl Z4.hl wr w4:=by
 have kw:=Q9O st.sep I.ok hx;rw [I.s] at kw;refine kw.mono ?_;rintro r w2 ⟨rfl,Z2,ok2,a2,s2,st2⟩;refine⟨_,rfl,?_⟩;have kp:=Q7D st2.sep ok2 x;rw [s2.s,I.s] at kp;refine kp.mono ?_;rintro r w3 ⟨rfl,Z3,ok3,a3,s3,st3⟩;obtain⟨⟨hp3,hk3⟩,hnext⟩:=I.next (p:=q) hlz hq h0 hA hk ok2 a2 s2 ok3 a3 s3;have hc:=SP.c0 st3.sep;rw [s3.s,s2.s,I.s,s3.alt.c,s2.alt.c,I.c] at hc;refine⟨_,rfl,hc,?_⟩;have kd:=Z9f (SP.sS st3.sep) ok3.core hK hx hp3 h0 hk3;rw [s3.alt.c,s2.alt.c,I.c] at kd;refine kd.mono ?_;rintro r w4 (⟨h1,_⟩|⟨_,h1,_⟩|⟨_,_,h1,_⟩|⟨p,rv,hp,_,_,hov,rfl,st4⟩)
 ·rw [hp3] at h1;cases h1
 ·exact absurd h1 h0
 ·exact absurd hk3 h1
 ·rw [hp3] at hp;cases hp;have I4:=hnext hp3 hov;refine⟨_,rfl,_,I4,?_⟩;exact (st2.trans st3).trans (SP.stepS st3.sep (Z3.S.doomed x q rv) Z3.tb rfl st4)
theorem Q6G {w:World} {Z:SP} {fr:List Nat} {N K:Nat} {M:Int} (hs:Sep w Z.hl) (ok:Z.Ok fr N K M) (hK:K<=1048576) {h:Nat} (hh:h<4294967296) :
  Calls prog 35 #[.pointer (some ⟨Z.s,0,none⟩),.int .u32 h] w (KillR Z fr N K M h w):=by
 have c0:=SP.c0 hs;cases hp:pget Z.S.l 1 h with
 | none =>
  have ko:=Q4J (SP.sS hs) ok.core.inv.lok hh 0 hp;unfold zobj at ko;have HR:Hid (∀W,Below w.heap.size w W->KillR Z fr N K M h w (.returned (.tuple #[.slice none 0 0,.int .i64 8])) W):=fun W hb=>.inl ⟨hp,rfl,hb⟩
  clear hs ok hp;go_enter func35,ntmps35;go_wp2_with fail;refine ko.mono ?_;rintro r w2 ⟨rfl,hb2⟩;have HQ:=Q0a (HR.out _ (hb2.alloc hb2.size (.cells #[.int .i64 0,.int .i64 0,.int .i64 0] 69)));clear hb2 HR ko;go_wp2_with fail
  first|exact HQ.out|(go_ret2;exact HQ.out)
 | some p =>
  have ko:=Q3J (SP.sS hs) ok.core.inv.lok hh 0 hp (.inl rfl);unfold Pl.obj at ko;by_cases h0:h=0
  ·subst h0;have HR:Hid (∀W,Below w.heap.size w W->KillR Z fr N K M 0 w (.returned (.tuple #[.slice none 0 0,.int .i64 1])) W):=fun W hb=>.inr (.inl ⟨rfl,rfl,hb⟩)
   clear hs ok hp;go_enter func35,ntmps35;go_wp2_with fail;refine ko.mono ?_;rintro r w2 ⟨rfl,hb2⟩;have HQ:=Q0a (HR.out _ (hb2.alloc hb2.size (.cells #[.int .i64 (p.kind:Int),.int .i64 (p.at_:Int),.int .i64 (p.fac:Int)] 69)));clear hb2 HR ko;go_wp2_with fail
   first|exact HQ.out|(go_ret2;exact HQ.out)
  ·have HS:=Q0a hs;have HOk:=Q0a ok;have HK:=Q0a hK;have HP:=Q0a hp;have HH0:=Q0a h0;have hb0:(((h:Nat):Int)==0)=false:=by simp;omega
   have HU:Hid (∀W,Below w.heap.size w W->W.cell? ⟨Z.s,0,none⟩=some (.pointer (some ⟨Z.S.c,0,none⟩))/\Calls prog 33 #[.pointer (some ⟨Z.S.c,0,none⟩),.int .u32 h] W (NewHs W (Q0K Z.S.l Z.S.P.q.next.toNat h))):=fun W hb=>by
    have s1:=(hs.grown hb).sep;exact⟨SP.c0 s1,Z3T (SP.sS s1) ok.core hh⟩
   have HRow:=Q0a (Z0Y ok.core.inv.tree hp h0);have hul:(Q0K Z.S.l Z.S.P.q.next.toNat h++[h]).length<=256:=by
    have h1:=Z4r ok.core.inv.tree h;rw [Q4z ok.core.inv.tree,J3i,J6X] at h1
    simpa using h1
   have HUl:=Q0a hul;have HLz:Hid (Z.S.l.length<=256):=by show Z.S.l.length<=256;rw [ok.core.inv.len];omega
   clear hs ok hp h0 hK;go_enter func35,ntmps35;go_wp2_with fail;refine ko.mono ?_;rintro r w2 ⟨rfl,hb2⟩;have hb3:=hb2.alloc hb2.size (.cells #[.int .i64 (p.kind:Int),.int .i64 (p.at_:Int),.int .i64 (p.fac:Int)] 69);obtain⟨d0,ku⟩:=HU.out _ hb3;have HB3:=Q0a hb3;clear hb2 hb3 ko HU;go_wp2_with fail;refine ku.mono ?_;rintro r w4 ⟨v4,rfl,hv1,hv2⟩;have hO:OutH (w2.alloc (.cells #[.int .i64 (p.kind:Int),.int .i64 (p.at_:Int),.int .i64 (p.fac:Int)] 69)) w4 v4 (Q0K Z.S.l Z.S.P.q.next.toNat h):=⟨hv1,hv2⟩
   obtain⟨v5,w5,happ,hO5⟩:=hO.app (by have:=HUl.out;rw [J3h] at this;omega) h 66;have hnew:NewHs (w2.alloc (.cells #[.int .i64 (p.kind:Int),.int .i64 (p.at_:Int),.int .i64 (p.fac:Int)] 69)) (Q0K Z.S.l Z.S.P.q.next.toNat h++[h]) (.returned v5) w5:=⟨v5,rfl,hO5.1,hO5.2⟩
   obtain⟨a,cap,e,hb5,has⟩:=hnew.aside (HS.out.grown HB3.out).sep;obtain rfl:v5=.slice a (Q0K Z.S.l Z.S.P.q.next.toNat h++[h]).length cap:=by cases e;rfl
   have HI0:Hid (Step Z.hl Z.hl w w5/\Aside Z.hl (Q0K Z.S.l Z.S.P.q.next.toNat h++[h]) a w5):=⟨HS.out.grown (HB3.out.trans (hb5.mono HB3.out.size)),has⟩
   have HKL:Hid (Q8o Z.S h=Q0K Z.S.l Z.S.P.q.next.toNat h++[h]):=rfl;generalize hL:Q0K Z.S.l Z.S.P.q.next.toNat h++[h]=L at *
   generalize hn:L.length=n at *
   have HN:=Q0a hn;clear hv1 hv2 hO hO5 hnew hb5 has e hul ku d0;go_wp2_with (at_builtin;refine Lib.wpList_append_run _ rfl _ _ _ _ rfl _ _ rfl rfl _ _ happ ?_);clear happ;go_wp2_with fail
   go_loopg [40] n (fun gk iv wr=>∃(k:Nat) (Z1:SP),iv=.int .i64 k/\k+gk=n/\KillI Z fr N K M (L.take k) Z1/\Step Z.hl Z1.hl w wr/\Aside Z1.hl L a wr)
   case atStart=>exact⟨0,Z,rfl,by omega,KillI.start HOk.out,HI0.out.1,HI0.out.2⟩
   case round =>
    obtain⟨k,Z1,rfl,hkg,hI,hst,has⟩:=hrel;have HKg:=Q0a hkg;have HI:=Q0a hI;have HSt:=Q0a hst;have HAs:=Q0a has;by_cases hlt:k<n
    ·obtain⟨x,hx⟩:∃x,L[k]?=some x:=⟨_,J4O (by rw [HN.out];exact hlt)⟩
     obtain⟨g,rfl,_,_,hcx⟩:=has k x hx;have hsplit:L=L.take k++x::L.drop (k+1):=by
      obtain⟨hlt',hg⟩:=J2O.1 hx;rw [<- hg,J3v,J3w]
     obtain⟨q,hq,hx0,hxA,hxk⟩:=HRow.out _ _ _ hsplit;have hx32:x<4294967296:=by
      obtain⟨a1,a2,_⟩:=pget_some.1 hq;have:=(HOk.out.core.inv.lok.2 q (J4L a1)).2;unfold nm at a2;omega
     have kr:=Z3Z HK.out HLz.out HI.out HSt.out hx32 hq hx0 hxA hxk;have htk:L.take (k+1)=L.take k++[x]:=by rw [J4t,hx];rfl
     rw [<- htk] at kr;have hki:(k:Int)<(n:Int):=by omega
     have hk0:(0:Int)<=(k:Int):=by omega
     have hkb:(k:Int)<=256:=by have:=HUl.out;omega
     clear hI hst has hkg hx hsplit hq hx0 hxA hxk hx32 htk HI0;go_wp2_with fail;refine kr.mono ?_;rintro r w6 ⟨v6,rfl,k6⟩;have HK6:=Q0a k6;clear k6 kr hcx;go_wp2_with fail;refine HK6.out.mono ?_;rintro r w7 ⟨v7,rfl,d7,k7⟩;have HK7:=Q0a k7;clear k7 HK6;go_wp2_with fail;refine HK7.out.mono ?_;rintro r w8 ⟨v8,rfl,Z4,hI4,hst4⟩;have HX:Hid (KillI Z fr N K M (L.take (k+1)) Z4/\Step Z.hl Z4.hl w w8/\Aside Z4.hl L (some ⟨g,0,none⟩) w8):=⟨hI4,HSt.out.trans hst4,HAs.out.step hst4⟩
     clear hI4 hst4 HK7 d7;go_wp2_with fail;go_roundg (n-(k+1))
     case measure=>have:=HKg.out;omega
     case rel=>exact⟨k+1,Z4,by go_num,by have:=HKg.out;omega,HX.out⟩
    ·obtain rfl:k=n:=by have:=HKg.out;omega
     have HR:Hid (KillR Z fr N K M h w (.returned (.tuple #[.slice a k cap,.int .i64 0])) wr):=by
      refine .inr (.inr ⟨HH0.out,⟨p,HP.out⟩,a,cap,?_,Z1,?_,hst,?_⟩)
      ·rw [HKL.out,HN.out]
      ·rw [HKL.out,<- J6J (l:=L),HN.out];exact hI
      ·rw [HKL.out];exact has
     clear hI hst has hkg;go_wp2_with fail
     first|exact HR.out|(go_ret2;exact HR.out)
def GoesZ (Z:SP) (N K:Nat) (M:Int) (w w':World):Prop:=∃(Z':SP) (fr':List Nat),Z'.Ok fr' N K M/\GoneZ Z Z'/\Step Z.hl Z'.hl w w'
theorem GoesZ.mono {Z:SP} {N N' K K':Nat} {M M':Int} {w w':World} (h:GoesZ Z N K M w w') (h1:N<=N') (h2:K<=K') (h3:M<=M'):GoesZ Z N' K' M' w w':=by
 obtain⟨Z',fr',a,b,c⟩:=h;exact⟨Z',fr',a.mono h1 h2 h3,b,c⟩
section
variable {Z:SP} {fr:List Nat} {N K:Nat} {M:Int} {w w':World}
theorem GoesZ.of (hs:Sep w Z.hl) (ok:Z.Ok fr N K M) (hb:Below w.heap.size w w'):GoesZ Z N K M w w':=⟨Z,fr,ok,GoneZ.refl Z,hs.grown hb⟩
theorem GoesZ.same {Z':SP} (ok:Z'.Ok fr N K M) (s:SameZ Z Z') (st:Step Z.hl Z'.hl w w'):GoesZ Z N K M w w':=⟨Z',fr,ok,s.toSameN.gone,st⟩
theorem GoesZ.at {w1 w2:World} (hs:Sep w Z.hl) (hb:Below w.heap.size w w1) (h:GoesZ Z N K M w1 w2):GoesZ Z N K M w w2:=by
 obtain⟨Z',fr',a,b,c⟩:=h;exact⟨Z',fr',a,b,(hs.grown hb).trans c⟩
theorem BackZ.goes (ok:Z.Ok fr N K M) {y:Nat} {own:Int} (h:BackZ Z fr N K y own w w'):GoesZ Z N K M w w':=by
 obtain⟨Z',a,_,b,c⟩:=h.ok ok;exact .same a b c
theorem RootR.goes (hs:Sep w Z.hl) (ok:Z.Ok fr N K M) {x h:Nat} {z r er:Int} (R:RootR Z fr N K M x z h r w er w'):GoesZ Z N K (M+1) w w':=by
 rcases R with ⟨_,_,hb⟩|⟨s,rn,p,q,_,_,_,_,_,hp,hk,_,_,_,⟨_,Z',a,b,_,_,_,c⟩|⟨_,_,P',tr,st⟩⟩
 ·exact (GoesZ.of hs ok hb).mono (J2x _) (J2x _) (by omega)
 ·exact⟨Z',fr,a,b.gone,c⟩
 ·refine GoesZ.mono ?_ (J2x _) (J2x _) (show M<=M+1 by omega);refine BackZ.goes (y:=x) (own:=p.fac) ok (LaidP.back (x:=x) (A:=fun _=>⟨0,0,0,false⟩) ok hp hk ((LaidP.start (x:=x) (A:=fun _=>⟨0,0,0,false⟩) ok (p.fac:Int)).tried tr) ?_);rw [Q1m];exact st
theorem MoveR.goes (ok:Z.Ok fr N K M) {x y n:Nat} {A:Nat->Mv} {er:Int} (R:MoveR Z fr N K M x y n A w er w'):GoesZ Z N K (M+n) w w':=by
 rcases R with ⟨_,_,own,h⟩|⟨p1,p2,_,_,_,_,_,⟨_,a,Z',_,_,h1,h2,_,h3⟩|⟨_,_,h⟩⟩
 ·exact (h.goes ok).mono (J2x _) (J2x _) (by omega)
 ·exact⟨Z',fr,h1,h2.gone,h3⟩
 ·exact (h.goes ok).mono (J2x _) (J2x _) (by omega)
theorem RevR.goes (hs:Sep w Z.hl) (ok:Z.Ok fr N K M) {x:Nat} {z mask:Int} {self:Bool} {r:Ending} (R:RevR Z fr N K M x z mask self w r w'):(∃a b:Value,r=.returned (.tuple #[a,b]))/\GoesZ Z N K M w w':=by
 rcases R with ⟨e,rfl,hb,_⟩|⟨s,m,n,en,_,_,_,_,_,_,_,_,_,rfl,Z',a,_,b,c⟩
 ·exact⟨⟨_,_,rfl⟩,.of hs ok hb⟩
 ·exact⟨⟨_,_,rfl⟩,.same a b c⟩
theorem KillI.gone {A:List Nat} {Z1:SP} (I:KillI Z fr N K M A Z1) (h0:0∉A):GoneZ Z Z1:=⟨I.s,I.f,I.c,I.per,I.same,by rw [I.live 0,if_neg h0]⟩
theorem KillR.goes (hs:Sep w Z.hl) (ok:Z.Ok fr N K M) {h:Nat} {r:Ending} (R:KillR Z fr N K M h w r w'):(∃a b:Value,r=.returned (.tuple #[a,b]))/\GoesZ Z N K M w w':=by
 rcases R with ⟨_,rfl,hb⟩|⟨_,rfl,hb⟩|⟨h0,⟨p,hp⟩,a,cap,rfl,Z',I,st,_⟩
 ·exact⟨⟨_,_,rfl⟩,.of hs ok hb⟩
 ·exact⟨⟨_,_,rfl⟩,.of hs ok hb⟩
 ·refine⟨⟨_,_,rfl⟩,Z',fr,I.ok,I.gone fun hm=>?_,st⟩;obtain⟨A,B,e⟩:=J6F hm;obtain⟨_,_,h2,_⟩:=Z0Y ok.core.inv.tree hp h0 A 0 B e;exact h2 rfl
theorem MkR.goes (ok:Z.Ok fr N K M) {x hh:Nat} {z k er:Int} (R:MkR Z fr N K M x z k w hh er w'):GoesZ Z (N+1) K (M+1) w w':=by
 rcases R with ⟨_,_,own,h⟩|⟨_,Z',fr',s,i,q,q',_,_,_,_,_,_,_,_,a,b,_,_,c⟩
 ·exact (h.goes ok).mono (J6S _) (J2x _) (by omega)
 ·exact⟨Z',fr',a,b,c⟩
theorem MakeR.goesZ (hs:Sep w Z.hl) (ok:Z.Ok fr N K M) {y:Nat} {k lim:Int} {r:Ending} (m:MakeR Z.S fr y k lim w r w'):(∃(x:Nat) (er:Int),r=two x er)/\GoesZ Z (N+1) K M w w':=by
 rcases m.cases ok.core with ⟨er,P',_,rfl,tr,st⟩|⟨f,n,e,i,q,a,v,P',fr',hf,hfk,_,hn,he,hi,hq,rfl,mk,st⟩
 ·refine⟨⟨0,er,rfl⟩,Z.setS (Z.S.setP P') Z.tb,fr,?_,(tr.alt (S:=Z.S) 0).gone _,SP.stepS hs _ _ rfl st⟩;exact SP.Ok.mono ⟨ok.core.tried tr,ok.tpi.tried ok.core tr,ok.fpi,ok.fo,ok.next⟩ (J6S _) (J2x _) (J6E _)
 ·exact⟨⟨nm i q,0,rfl⟩,Z.setS (Z.S.made f n a v i q P') Z.tb,fr',⟨mk.ok ok.core hi,ok.tpi.made ok.core mk hi hq,ok.fpi.made hi hq (ok.tpi.nil i q hi (by omega)),ok.fo,ok.next⟩,(mk.went ok.core hi hq).gone _,SP.stepS hs _ _ rfl st⟩
theorem TickR.goesZ (hs:Sep w Z.hl) (ok:Z.Ok fr N K M) {r:Ending} (m:TickR Z.S fr N K w r w'):(∃v:Value,r=.returned v)/\GoesZ Z N (K+1) M w w':=by
 obtain⟨rv,S',fr',v,rfl,_,_,t,ok',st,_⟩:=m;have wn:Went Z.S S':=t.went;have tz:TPI (Z.S.setG (Z.S.now+1) rv (dueT Z.S)) Z.tb:=⟨ok.tpi.tin,ok.tpi.full,ok.tpi.nil,ok.tpi.lvs,ok.tpi.nds,ok.tpi.xc⟩
 exact⟨⟨v,rfl⟩,Z.setS S' Z.tb,fr',⟨ok',TPI.ticked (D:=[]) (S:=Z.S.setG (Z.S.now+1) rv (dueT Z.S)) ok.core.inv.len ok'.inv.len tz t.live t.mem t.high t.xc,ok.fpi.live t.live,ok.fo,ok.next⟩,wn.gone _,SP.stepS hs _ _ wn.c st⟩
end
def isK (l:List Pl) (k:Int) (h:Nat):Bool:=match pget l 1 h with
 | some p=>decide (k=0∨(p.kind:Int)=k)
 | none=>false
def Q2l (l:List Pl) (k:Int) (T:List Nat):List Nat:=T.filter (isK l k)
def nthV (l:List Pl) (k n:Int):Nat:=if (Q2l l k (allL l 1)).length=0∨n<0 then 0 else (Q2l l k (allL l 1)).getD (n%((Q2l l k (allL l 1)).length:Int)).toNat 0
theorem Z4a (l:List Pl) (k:Int) (T:List Nat) (y:Nat):Q2l l k (T++[y])=Q2l l k T++if isK l k y=true then [y] else []:=by
 unfold Q2l;rw [J4u];cases h:isK l k y <;> simp [h]
theorem Q9U (l:List Pl) (k:Int) (T:List Nat):(Q2l l k T).length<=T.length:=J4M _ _
theorem isK_iff {l:List Pl} {k:Int} {h:Nat}:isK l k h=true↔∃p,pget l 1 h=some p/\(k=0∨(p.kind:Int)=k):=by
 unfold isK;cases pget l 1 h with
 | none=>simp
 | some p=>simp
theorem Z2p {l:List Pl} (h:l.length=256):(allL l 1).length<=256:=by
 have:=Q2y l 1 l.length;unfold allL;rw [h] at this ⊢;exact this
theorem Z4b {l:List Pl} {k n:Int}:nthV l k n=0∨(∃p,pget l 1 (nthV l k n)=some p/\(k=0∨(p.kind:Int)=k)):=by
 unfold nthV;split
 ·exact .inl rfl
 ·rename_i h;have h1:=Int.emod_nonneg n (b:=((Q2l l k (allL l 1)).length:Int)) (by omega);have h2:=Int.emod_lt_of_pos n (b:=((Q2l l k (allL l 1)).length:Int)) (by omega);have hlt:(n%((Q2l l k (allL l 1)).length:Int)).toNat<(Q2l l k (allL l 1)).length:=by omega
  refine .inr ?_;rw [J7e,J4O hlt,J5p];have hm:=J5U hlt;unfold Q2l at hm;exact isK_iff.1 (J2R.1 hm).2
theorem Z1e {l:List Pl} (lok:LOk l) {s h:Nat} {q:Pl} (hq:pget l s h=some q):h<4294967296:=by
 have h1:=pget_some.1 hq;have h2:=lok.2 q (Q0y hq);have:nm (h%256) q=h:=h1.2.1;unfold nm at this;omega
theorem J0Z {l:List Pl} (lok:LOk l) (k n:Int):nthV l k n<4294967296:=by
 rcases Z4b (l:=l) (k:=k) (n:=n) with h|⟨p,hp,_⟩
 ·rw [h];omega
 ·exact Z1e lok hp
theorem J1a {w:World} {Z:SP} {fr:List Nat} {N K:Nat} {M:Int} (hs:Sep w Z.hl) (ok:Z.Ok fr N K M) (k n:Int) (hn:I64 n) :
  Calls prog 31 #[.pointer (some ⟨Z.s,0,none⟩),.int .i64 k,.int .i64 n] w (Told w (.int .u32 ((nthV Z.S.l k n:Nat):Int))):=by
 have hlok:=ok.core.inv.lok;have HObj:Hid (∀W,Below w.heap.size w W->Calls prog 29 #[.pointer (some ⟨Z.s,0,none⟩)] W fun r w'=>r=.returned (.pointer (some ⟨Z.S.c,0,none⟩))/\W=w'):=fun W hb=>Q3r (hs.grown hb).sep
 have HLive:Hid (∀W,Below w.heap.size w W->Calls prog 32 #[.pointer (some ⟨Z.S.c,0,none⟩)] W (NewHs W (allL Z.S.l 1))):=fun W hb=>Q4L (SP.sS (hs.grown hb).sep) hlok
 have HOf:Hid (∀y,y∈allL Z.S.l 1->∃a b c er:Int,((er==0)=isK Z.S.l k y)/\∀W,Below w.heap.size w W->Calls prog 30 #[.pointer (some ⟨Z.S.c,0,none⟩),.int .u32 y,.int .i64 k] W (Told W (.tuple #[.agg #[.int .i64 a,.int .i64 b,.int .i64 c],.int .i64 er]))):=fun y hy=>by
  obtain⟨p,hp⟩:=(Q1i (by rw [hlok.1];omega)).1 hy;have hlt:=Z1e hlok hp;by_cases hk:k=0∨(p.kind:Int)=k
  ·refine⟨_,_,_,0,?_,fun W hb=>Q3J (SP.sS (hs.grown hb).sep) hlok hlt k hp hk⟩;rw [isK_iff.2 ⟨p,hp,hk⟩];rfl
  ·refine⟨_,_,_,10,?_,fun W hb=>Q4K (SP.sS (hs.grown hb).sep) hlok hlt k hp (by omega) (by omega)⟩;unfold isK;rw [hp];show ((10:Int)==0)=decide (_∨_);rw [decide_eq_false hk];rfl
 have HTl:=Q0a (Z2p hlok.1);obtain⟨hn1,hn2⟩:=hn;have HV:Hid (nthV Z.S.l k n=if (Q2l Z.S.l k (allL Z.S.l 1)).length=0∨n<0 then 0 else (Q2l Z.S.l k (allL Z.S.l 1)).getD (n%((Q2l Z.S.l k (allL Z.S.l 1)).length:Int)).toNat 0):=rfl;clear hs ok hlok;generalize nthV Z.S.l k n=nv at *
 generalize hT:allL Z.S.l 1=T at *
 go_enter func31,ntmps31;go_wp2_with fail;refine (HObj.out _ (Below.refl _ _)).mono ?_;rintro rv w0 ⟨rfl,rfl⟩;go_wp2_with fail;refine (HLive.out _ (Below.refl _ _)).mono ?_;intro rv w1 hx1;obtain⟨a0,cap0,rfl,hb1,hih⟩:=hx1.shape;have HB1:=Q0a hb1;have HIh:=Q0a hih;clear hx1 hb1 hih HLive;go_wp2_with fail
 go_loopg [7,9] T.length (fun gk ov iv wr=>∃j:Nat,iv=.int .i64 j/\j+gk=T.length/\OutH w1 wr ov (Q2l Z.S.l k (T.take j)))
 case atStart=>exact⟨0,rfl,J5b _,OutH.nil w1⟩
 case round =>
  obtain⟨j,rfl,hkg,hout⟩:=hrel;have HO:=Q0a hout;have HKG:=Q0a hkg;clear hout;by_cases hlt:j<T.length
  ·obtain⟨y,hy⟩:∃y,T[j]?=some y:=⟨_,J4O hlt⟩
   obtain⟨g0,rfl,hg0,hgl,hcell⟩:=(HIh.out.below HO.out.2).at' j y hy;obtain⟨a,b,c,er,her,kof⟩:=HOf.out y (J4L hy);have hbw:Below w.heap.size w wr:=HB1.out.trans (HO.out.2.mono HB1.out.size);have HStep:Hid (Q2l Z.S.l k (T.take (j+1))=Q2l Z.S.l k (T.take j)++if isK Z.S.l k y=true then [y] else []):=by
    rw [J4t,hy];exact Z4a _ _ _ _
   have HY:=Q0a hy;have HKof:Hid (∀W,Below wr.heap.size wr W->Calls prog 30 #[.pointer (some ⟨Z.S.c,0,none⟩),.int .u32 y,.int .i64 k] W (Told W (.tuple #[.agg #[.int .i64 a,.int .i64 b,.int .i64 c],.int .i64 er]))):=fun W hb=>kof W (hbw.trans (hb.mono hbw.size))
   have HOb2:Hid (∀W,Below wr.heap.size wr W->Calls prog 29 #[.pointer (some ⟨Z.s,0,none⟩)] W fun r w'=>r=.returned (.pointer (some ⟨Z.S.c,0,none⟩))/\W=w'):=fun W hb=>HObj.out W (hbw.trans (hb.mono hbw.size))
   have HCl:Hid (∀W,Below wr.heap.size wr W->W.cell? ⟨g0,j,none⟩=some (.int .u32 y)):=fun W hb=>(World.cell?_of_block (w:=wr) (hb.block g0 hgl)).trans hcell
   have HOW:Hid (∀W,Below wr.heap.size wr W->OutH w1 W u7 (Q2l Z.S.l k (T.take j))):=fun W hb=>HO.out.below hb
   have hLn:(Q2l Z.S.l k (T.take j)).length<=16777216:=by
    have h1:=Q9U Z.S.l k (T.take j);rw [J4Q] at h1;have:=HTl.out;omega
   have HLn:=Q0a hLn;have HER:=Q0a her;have HBA:Hid (∀W,Below wr.heap.size wr W->∀o,Below wr.heap.size wr (W.alloc o)):=fun W hb o=>hb.alloc hb.size o
   have HD:Hid (Below wr.heap.size wr wr.drew):=(Below.refl _ _).drew;have hkb:(j:Int)<256:=by have:=HTl.out;omega
   have hk0:(0:Int)<=(j:Int):=by omega
   clear hy hkg her kof hbw HO HObj HOf hg0 hgl hLn;go_upto_region 6 with fail
   go_cut [11] from 22 to 31 (fun nn wc=>nn=.int .i64 er/\Below wr.heap.size wr wc)
   case first =>
    clear HStep HOW HLn HER HV HIh;have cD:wr.drew.cell? ⟨g0,j,none⟩=some (.int .u32 y):=hcell;have HKA:Hid (Calls prog 30 #[.pointer (some ⟨Z.S.c,0,none⟩),.int .u32 y,.int .i64 k] (wr.alloc (.cells #[.int .i64 0,.int .i64 0,.int .i64 0] 69)).drew fun r w4=>r=.returned (.tuple #[.agg #[.int .i64 a,.int .i64 b,.int .i64 c],.int .i64 er])/\Below wr.heap.size wr w4/\Cells w4 wr.heap.size 69 [.int .i64 0,.int .i64 0,.int .i64 0]):=
     (HKof.out _ (HBA.out _ (Below.refl _ _).drew _)).mono fun r w4 h=>⟨h.1,((HBA.out _ (Below.refl _ _).drew _)).trans (h.2.mono (by simp)),(Cells.new wr 69 [.int .i64 0,.int .i64 0,.int .i64 0]).same (h.2.block _ (by simp))⟩
    go_region_held3 (fun w'=>w'.cell? ⟨g0,j,none⟩=some (.int .u32 y))
     (first|exact hcell|exact cD|exact HCl.out _ (HBA.out _ HD.out _)|exact HCl.out _ HB4.out|exact HCl.out _ (HBA.out _ HB4.out _)|exact HCl.out _ (HB4.out.setCell (by simp) _)|exact HCl.out _ ((HB4.out.setCell (by simp) _).setCell (by simp) _)|exact HCl.out _ (((HB4.out.setCell (by simp) _).setCell (by simp) _).setCell (by simp) _))
     (first|(go_at_call 29;refine (HOb2.out _ (by first|exact HD.out|exact HBA.out _ HD.out _)).mono ?_;rintro rv w' ⟨rfl,rfl⟩)|(go_at_call 30;refine HKA.out.mono ?_;rintro rv w4 ⟨rfl,hb4,hc4⟩;have HB4:=Q0a hb4;have z0:=hc4.cell 0 _ rfl;have z1:=hc4.cell 1 _ rfl;have z2:=hc4.cell 2 _ rfl;have y0:=hc4.free 0;have y1:=hc4.free 1;have y2:=hc4.free 2;have HC4:=Q0a hc4;clear hb4 hc4)|(go_at_call 30;refine (HKof.out _ (by first|exact HD.out|exact HBA.out _ HD.out _)).mono ?_;rintro rv w4 ⟨rfl,hb4⟩;have HB4:=Q0a (HD.out.trans (hb4.mono HD.out.size));clear hb4))
    all_goals (go_wp2_with fail;go_meet;first|exact⟨rfl,HBA.out _ HB4.out _⟩|exact⟨rfl,((HB4.out.setCell (by simp) _).setCell (by simp) _).setCell (by simp) _⟩|exact⟨rfl,HB4.out⟩)
   obtain⟨rfl,hbc⟩:=hcut;have HBc:=Q0a hbc;have HOc:=Q0a (HOW.out wc hbc);have hcell2:=HCl.out wc hbc;clear hbc hcell HCl HOW HKof HOb2 HBA HD;have hER:=HER.out;cases hik:isK Z.S.l k y with
   | true =>
    rw [hik] at hER;have HSt:=HStep.out;rw [hik,if_pos rfl] at HSt;obtain⟨v',w',happ,ho'⟩:=HOc.out.app HLn.out y 66;have HO':=Q0a ho';have HSt2:=Q0a HSt;clear ho' HSt HStep HER HOc;go_wp2_with (at_builtin;refine Lib.wpList_append_run _ rfl _ _ _ _ rfl _ _ rfl rfl _ _ happ ?_);go_roundg (T.length-(j+1))
    case measure=>have:=HKG.out;omega
    case rel=>exact⟨j+1,by go_num,by omega,by rw [HSt2.out];exact HO'.out⟩
   | false =>
    rw [hik] at hER;have HSt:=HStep.out;rw [hik,if_neg (by decide),J4D] at HSt;have HSt2:=Q0a HSt;clear HSt HStep HER;go_wp2_with fail;go_roundg (T.length-(j+1))
    case measure=>have:=HKG.out;omega
    case rel=>exact⟨j+1,by go_num,by omega,by rw [HSt2.out];exact HOc.out⟩
  ·have hkl:j=T.length:=by have:=HKG.out;omega
   have hout:=HO.out;rw [hkl,J6J] at hout;have HBw:Hid (Below w.heap.size w wr):=HB1.out.trans (hout.2.mono HB1.out.size);have HLl:Hid ((Q2l Z.S.l k T).length<=256):=J2y (Q9U _ _ _) HTl.out;clear HO HObj HOf HIh HB1 hkg;generalize Q2l Z.S.l k T=L at *
   obtain⟨aL,cL,rfl⟩:=hout.shape;have HO:=Q0a hout;clear hout;by_cases h0:L.length=0
   ·have hv:nv=0:=by rw [HV.out,if_pos (.inl h0)]
    subst hv;have hz:((L.length:Nat):Int)=0:=by omega
    have hz2:(((L.length:Nat):Int)==0)=true:=by rw [hz];rfl
    clear HV;go_wp2_with fail
    first|exact⟨rfl,HBw.out⟩|(go_ret;exact⟨rfl,HBw.out⟩)
   ·have hz2:(((L.length:Nat):Int)==0)=false:=by rw [beq_eq_false_iff_ne];omega
    have hz3:((L.length:Nat):Int)≠0:=by omega
    have hz4:(0:Int)<((L.length:Nat):Int):=by omega
    by_cases hn0:n<0
    ·have hv:nv=0:=by rw [HV.out,if_pos (.inr hn0)]
     subst hv;have hd:decide (n<0)=true:=decide_eq_true hn0;clear HV;go_wp2_with fail
     first|exact⟨rfl,HBw.out⟩|(go_ret;exact⟨rfl,HBw.out⟩)
    ·have hd:decide (n<0)=false:=decide_eq_false hn0;have h1:=Int.emod_nonneg n (b:=(L.length:Int)) (by omega);have h2:=Int.emod_lt_of_pos n (b:=(L.length:Int)) (by omega);have hmod:n.tmod (L.length:Int)=(((n%(L.length:Int)).toNat:Nat):Int):=by
      rw [J4o (by omega),Int.toNat_of_nonneg h1]
     have hv:nv=L.getD (n%(L.length:Int)).toNat 0:=by rw [HV.out,if_neg (by omega)]
     have hi:(n%(L.length:Int)).toNat<L.length:=by omega
     generalize (n%(L.length:Int)).toNat=i at *
     rw [J7e,J4O hi,J5p] at hv;have hLi:L[i]?=some nv:=by rw [hv];exact J4O hi
     clear hv HV h1 h2;have hne:L≠[]:=fun e=>h0 (by rw [e];rfl)
     obtain⟨gL,cL2,eL⟩:=HO.out.shape1 hne;cases eL;obtain⟨hcl,-,-⟩:=HO.out.cellAt hLi;have hw1:IntKind.i64.wrap ((i:Nat):Int)=(i:Int):=Go.IntWalk.i64_in _ (by have:=HLl.out;omega);have hji:(i:Int)<(L.length:Int):=by omega
     have hj0:(0:Int)<=(i:Int):=by omega
     clear hLi hne HO;go_wp2_with fail
     first|exact⟨rfl,HBw.out⟩|(go_ret;exact⟨rfl,HBw.out⟩)
structure Able (S:CO) (f:Pl) (e:En Fa) (n:Nat) (lim:Int) (i:Nat) (p:Pl):Prop where
 kind:f.kind=1
 may:n=8∨1<=n/\n<=5
 acc:find S.P.q.E f.own=some e
 cost:((costK n:Nat):Int)<=Q0w e
 page:S.P.d.ps.length<2 ^ S.P.d.top
 place:Fst S.l i p
 lim:n=1->0<=lim/\lim<=Q0w e-64/\S.P.q.E.length<32
theorem MakeR.able {S:CO} {fr:List Nat} {h:Nat} {n:Nat} {lim:Int} {w w':World} {r:Ending} (m:MakeR S fr h (n:Int) lim w r w') {f:Pl} (hf:pget S.l 1 h=some f) {e:En Fa} {i:Nat} {p:Pl} (a:Able S f e n lim i p) :
  ∃b x P' fr',r=two (nm i p) 0/\MadeOk S fr f e n b lim x i p P' fr'/\Step S.hl (S.made f n b x i p P').hl w w':=by
 rcases m with ⟨h0,_⟩|⟨f',hf',hm⟩
 ·rw [hf] at h0;cases h0
 ·rw [hf] at hf';cases hf';rcases hm with ⟨h0,_⟩|⟨_,hc,_⟩|⟨n',e',hn,_,_,_,he,hk⟩
  ·exact absurd a.kind h0
  ·exfalso;have:=a.may;rcases hc with h1|⟨h1,h2⟩
   ·apply h1;omega
   ·have:=a.lim (by omega);omega
  ·have:n'=n:=by omega
   subst this;rw [a.acc] at he;cases he;rcases hk with ⟨h0,_⟩|⟨_,h0,_⟩|⟨_,er,P',hc,_⟩|⟨i',p',b,x,P',fr',h1,h2,h3,_,rfl,hm,st⟩
   ·have:=a.cost;omega
   ·have:=h0.len;have:=a.page;omega
   ·exfalso;obtain⟨p1,p2,p3⟩:=a.place;rcases hc with ⟨_,h1|⟨h1,h2⟩⟩|⟨_,h1,h2⟩
    ·exact h1 p (J4L p1) p2
    ·have:=a.lim h1;omega
    ·have:=a.lim h1;omega
   ·obtain⟨p1,p2,p3⟩:=a.place;have hi:i'=i:=by
     rcases J5y i' i with h|h|h
     ·exact absurd h2 (p3 i' p' h h1)
     ·exact h
     ·exact absurd p2 (h3 i p h p1)
    subst hi;rw [p1] at h1;cases h1;exact⟨b,x,P',fr',rfl,hm,st⟩
structure FO.New (q:FO):Prop where
 N:q.N=[]
 next:q.next=0
 ok:q.Ok
theorem Z9p {w:World} {H:HL} (h:Sep w H):Calls prog 72 #[] w fun r w'=>∃q:FO,r=.returned (.pointer (some ⟨q.f,0,none⟩))/\q.New/\Step H (q.hl++H) w w':=by
 have s1:=h.newMap;have s2:=s1.sep.newMap;have s3:=s2.sep.new 282 [.map (some w.heap.size),.map (some (w.alloc (.map #[] 0)).heap.size),.int .i64 0];have HQ:Hid (∃q:FO,q.f=((w.alloc (.map #[] 0)).alloc (.map #[] 0)).heap.size/\q.New/\Step H (q.hl++H) w (((w.alloc (.map #[] 0)).alloc (.map #[] 0)).alloc (.cells #[.map (some w.heap.size),.map (some (w.alloc (.map #[] 0)).heap.size),.int .i64 0] 282))):=by
  refine⟨⟨((w.alloc (.map #[] 0)).alloc (.map #[] 0)).heap.size,w.heap.size,(w.alloc (.map #[] 0)).heap.size,[],0,fun _=>none⟩,rfl,⟨rfl,rfl,⟨⟨List.Pairwise.nil,List.Pairwise.nil,J6E _,fun e h=>(by cases h),fun e h=>(by cases h),fun e h=>(by cases h),fun e h=>(by cases h),fun e h=>(by cases h),fun e h=>(by cases h)⟩,(by show (0:Int)<1099511627776;decide),fun e h=>(by cases h),J4z _⟩⟩,?_⟩;refine ((s1.trans s2).trans s3).perm (J5R _) ?_;refine Q1f fun a=>?_
  simp only [FO.hl,FO.head,hc_append,hc_cons,kvs,okv,isMI,isMS,J5d,J6A];simp only [J1C];omega
 clear h s1 s2 s3;have hz1:(w.alloc (.map #[] 0)).heap.size=w.heap.size+1:=by simp
 have hz2:((w.alloc (.map #[] 0)).alloc (.map #[] 0)).heap.size=w.heap.size+1+1:=by simp
 rw [hz1,hz2] at HQ;have hmm:=@run_makeMap prog;go_enter func72,ntmps72;go_wp2_with fail;obtain⟨q,e,h1,h2⟩:=HQ.out;have e2:Ending.returned (.pointer (some ⟨w.heap.size+1+1,0,none⟩))=Ending.returned (.pointer (some ⟨q.f,0,none⟩)):=by rw [e]
 first|exact⟨q,e2,h1,h2⟩|(go_ret;exact⟨q,e2,h1,h2⟩)
structure SP.New (Z:SP) (S:CO) (tb:Nat->TB):Prop where
 S:Z.S=S
 tb:Z.tb=tb
 F:Z.F.New
theorem Z2q {w:World} {S:CO} (h:Sep w S.hl) (tb:Nat->TB):Calls prog 17 #[.pointer (some ⟨S.c,0,none⟩)] w fun r w'=>∃Z:SP,r=.returned (.pointer (some ⟨Z.s,0,none⟩))/\Z.New S tb/\Step S.hl Z.hl w w':=by
 have kf:=Z9p h;have HQ:Hid (∀(q:FO) (w1:World),q.New->Step S.hl (q.hl++S.hl) w w1->∃Z:SP,Z.s=w1.heap.size/\Z.New S tb/\Step S.hl Z.hl w (w1.alloc (.cells #[.pointer (some ⟨S.c,0,none⟩),.pointer (some ⟨q.f,0,none⟩)] 152))):=fun q w1 hq st=>by
  refine⟨⟨w1.heap.size,S,tb,q⟩,rfl,⟨rfl,rfl,hq⟩,?_⟩;refine (st.trans (st.sep.new 152 [ptr S.c,ptr q.f])).perm (J5R _) ?_;refine Q1f fun a=>?_
  simp only [SP.hl,SP.head,hc_append,hc_cons];omega
 clear h;go_enter func17,ntmps17;go_wp2_with fail;refine kf.mono ?_;rintro r w1 ⟨q,rfl,hq,st⟩;obtain⟨Z,e,h1,h2⟩:=HQ.out q w1 hq st;have HZ:Hid (Z.New S tb/\Step S.hl Z.hl w (w1.alloc (.cells #[.pointer (some ⟨S.c,0,none⟩),.pointer (some ⟨q.f,0,none⟩)] 152))):=⟨h1,h2⟩
 clear hq st h1 h2 HQ kf;go_wp2_with fail;have e2:Ending.returned (.pointer (some ⟨w1.heap.size,0,none⟩))=Ending.returned (.pointer (some ⟨Z.s,0,none⟩)):=by rw [e]
 first|exact⟨Z,e2,HZ.out.1,HZ.out.2⟩|(go_ret;exact⟨Z,e2,HZ.out.1,HZ.out.2⟩)
theorem SP.New.ok {Z:SP} {S:CO} {tb:Nat->TB} (h:Z.New S tb) {fr:List Nat} {N K:Nat} (ok:S.Ok fr N K) (t:TPI S tb) (hn:∀i,i<256->(tb i).Nil):Z.Ok fr N K 0:=by
 have hnone:∀x s,Q0f S.l tb x s=none:=fun x s=>by
  unfold Q0f;split
  ·split
   ·rename_i hc;exact (hn _ (J5D _ (by omega))).2 s hc.2
   ·rfl
  ·rfl
 refine⟨by rw [h.S];exact ok,by rw [h.S,h.tb];exact t,?_,h.F.ok,by rw [h.F.next];exact J6E _⟩;rw [h.S,h.tb,h.F.N];exact⟨fun x s e he=>(by rw [hnone] at he;cases he),fun x s e he=>(by rw [hnone] at he;cases he),fun n hn=>(by cases hn),fun n hn=>by cases hn⟩
theorem TPI.emp {S:CO} {fr:List Nat} {N K:Nat} (ok:S.Ok fr N K) (h2:∀(i:Nat) (p:Pl),S.l[i]?=some p->¬(p.st=1/\p.kind=2)) (h7:S.P.usedOf 7=[]) (h6:S.P.usedOf 6=[]) (hx:∀id,S.xc id=0):TPI S fun _=>TB.emp:=by
 have l0:Q2S (fun _=>TB.emp)=[]:=by
  unfold Q2S;simp only [TB.emp_nil.lists.1];generalize List.range 256=L
  induction L with
  | nil=>rfl
  | cons a r ih=>rw [J2U,ih];rfl
 have n0:Q3g (fun _=>TB.emp)=[]:=by
  unfold Q3g;simp only [TB.emp_nil.lists.2.1];generalize List.range 256=L
  induction L with
  | nil=>rfl
  | cons a r ih=>rw [J2U,ih];rfl
 refine⟨fun i p hi h1 hk=>absurd ⟨h1,hk⟩ (h2 i p hi),fun i _=>TB.emp_nil.full,fun i p _ _=>TB.emp_nil,by rw [l0,h7],by rw [n0,h6],fun id=>?_⟩;rw [hx];unfold xcOf;have:∀i,xcP (fun _=>TB.emp) id i S.l[i]?=0:=fun i=>by
  unfold xcP;split
  ·split
   ·exact TB.emp_nil.lists.2.2
   ·rfl
  ·rfl
 simp only [this];generalize List.range 256=L
 induction L with
 | nil=>rfl
 | cons a r ih=>rw [J2A,J6k];omega
theorem Z9q (Q:List (Nat×Nat)) (n:Nat):(Q.filter fun q=>decide (q.1<n+1)).length=(Q.filter fun q=>decide (q.1<n)).length+(Q.filter fun q=>decide (q.1=n)).length:=by
 induction Q with
 | nil=>rfl
 | cons q r ih =>
  simp only [J6N];by_cases h1:q.1<n
  ·rw [if_pos (by simp;omega),if_pos (by simpa using h1),if_neg (by simp;omega)];simp only [J3i];omega
  ·by_cases h2:q.1=n
   ·rw [if_pos (by simp;omega),if_neg (by simpa using h1),if_pos (by simpa using h2)];simp only [J3i];omega
   ·rw [if_neg (by simp;omega),if_neg (by simpa using h1),if_neg (by simpa using h2)];exact ih
theorem Q6H {α:Type} (f:Nat->Option α) (m i:Nat) (Q:List (Nat×Nat)) (h:∀s,s<m->f s≠none->(i,s)∈Q):((List.range m).filterMap f).length<=(Q.filter fun q=>decide (q.1=i)).length:=by
 have e:((List.range m).filterMap f).length=(((List.range m).filter fun s=>(f s).isSome).map fun s=>(i,s)).length:=by
  rw [J4g];generalize List.range m=L
  induction L with
  | nil=>rfl
  | cons a r ih =>
   rw [J2K,J6N];cases f a with
   | none=>simpa using ih
   | some b=>simp [ih]
 rw [e];have hnd:(((List.range m).filter fun s=>(f s).isSome).map fun s=>(i,s)).Nodup:=by
  refine J3c.2 ((J6s.filter _).imp fun hne he=>hne ?_);exact (Prod.mk.inj he).2
 refine hnd.length_le_of_subset fun q hq=>?_
 obtain⟨s,hs,rfl⟩:=J2D.1 hq;obtain⟨h1,h2⟩:=J2R.1 hs;refine J2R.2 ⟨h s (J2N.1 h1) (fun h0=>by rw [h0] at h2;cases h2),by simp⟩
theorem Q5h (f:Nat->List Nat) (Q:List (Nat×Nat)):∀n,(∀i,i<n->(f i).length<=(Q.filter fun q=>decide (q.1=i)).length)->((List.range n).flatMap f).length<=(Q.filter fun q=>decide (q.1<n)).length
 | 0,_=>by simp
 | n+1,h=>by
  rw [J2I,J3f,J3h,Z9q];have h1:=Q5h f Q n fun i hi=>h i (by omega)
  have h2:=h n (by omega);simp only [J2U,J6A,J4D];omega
theorem Q9V {tb:Nat->TB} (Q:List (Nat×Nat)) (h:∀i s,i<256->s<256->(tb i).en s≠none->(i,s)∈Q):(Q3g tb).length<=Q.length:=by
 refine J2y (Q5h _ Q 256 fun i hi=>?_) (J4M _ _);refine Q6H _ 256 i Q fun s hs h0=>h i s hi hs fun e=>h0 ?_
 rw [e];rfl
theorem Q9W {tb:Nat->TB} (hf:∀i,i<256->(tb i).Full) (Q:List (Nat×Nat)) (h:∀i s,i<256->s<256->(tb i).en s≠none->(i,s/16)∈Q):(Q2S tb).length<=Q.length:=by
 refine J2y (Q5h _ Q 256 fun i hi=>?_) (J4M _ _);refine Q6H _ 16 i Q fun k hk h0=>?_
 obtain⟨s,h1,h2,h3⟩:=hf i hi k hk fun e=>h0 (by rw [if_pos e])
 rw [<- h2];exact h i s hi h1 h3
theorem Z9O (l:List Pl) (tb:Nat->TB) (id:Int):∀n,((List.range n).map fun i=>xcP tb id i l[i]?).sum<=256*(((List.range n).flatMap fun i=>(tb i).lvs).length:Int)+48*(((List.range n).flatMap fun i=>(tb i).nds).length:Int)
 | 0=>by simp
 | n+1=>by
  have ih:=Z9O l tb id n;rw [J2I,J6b,J6m,J3f,J3f,J3h,J3h];simp only [J2A,J5d,J6k,List.sum_nil,J2U,J6A,J4D];have h1:xcP tb id n l[n]?<=(tb n).cost:=by
   have hc:=(tb n).cost_nn;unfold xcP;split
   ·split
    ·omega
    ·exact hc
   ·exact hc
  unfold TB.cost at h1;omega
theorem Z1f (l:List Pl) (tb:Nat->TB) (id:Int):xcOf l tb id<=256*((Q2S tb).length:Int)+48*((Q3g tb).length:Int):=Z9O l tb id 256
theorem Z9r {P:PL} {fr:List Nat} (ok:P.Ok fr):P.d.ps.length<=fr.length+((List.range 8).map fun k=>(P.usedOf k).length).sum:=by
 rw [<- ok.pages.length_eq,J3h];have hnd:=(ok.pages.nodup_iff).2 ok.d.nd;have hpg:P.pages.Nodup:=(J3q.1 hnd).2.1;have h1:P.pages.length<=(((List.range 8).flatMap P.usedOf).map fun a=>a/1024).length:=by
  refine hpg.length_le_of_subset fun g hg=>?_
  obtain⟨k,a,ha,rfl⟩:=(Q5b ok g).1 hg;have:=Q1Y ok ha;exact J2D.2 ⟨a,J2X.2 ⟨k,J2N.2 (by omega),ha⟩,rfl⟩
 rw [J4g,List.length_flatMap] at h1;omega
theorem Q9X:∀l:List Pl,(Q1T l 8).length+(Q1T l 1).length+(Q1T l 2).length+(Q1T l 3).length+(Q1T l 4).length+(Q1T l 5).length<=(l.filter Pl.is).length
 | []=>by simp [Q1T]
 | p::r=>by
  have ih:=Q9X r;have step:∀k,(Q1T (p::r) k).length=(Q1T r k).length+if p.is=true/\p.kind=k then 1 else 0:=fun k=>by
   unfold Q1T;rw [J2K];by_cases h:p.is=true/\p.kind=k
   ·rw [if_pos h];have:atsF k p=some p.at_:=by unfold atsF;simp [h.1,h.2]
    rw [this];rfl
   ·rw [if_neg h];have:atsF k p=none:=by
     unfold atsF;rw [if_neg]
     simpa using h
    rw [this];rfl
  rw [step,step,step,step,step,step,J6N];by_cases hi:p.is=true
  ·rw [if_pos hi,J3i];simp only [hi,true_and];by_cases h8:p.kind=8
   ·simp [h8];omega
   ·by_cases h1:p.kind=1
    ·simp [h1];omega
    ·by_cases h2:p.kind=2
     ·simp [h2];omega
     ·by_cases h3:p.kind=3
      ·simp [h3];omega
      ·by_cases h4:p.kind=4
       ·simp [h4];omega
       ·by_cases h5:p.kind=5
        ·simp [h5];omega
        ·simp [h8,h1,h2,h3,h4,h5];omega
  ·rw [if_neg hi];simp only [hi]
   simpa using ih
theorem Z4c {S:CO} {fr:List Nat} {N K:Nat} (ok:S.Ok fr N K):S.P.d.ps.length<=(S.l.filter Pl.is).length+(S.P.usedOf 7).length+(S.P.usedOf 6).length:=by
 have h1:=Z9r ok.inv.mem.pool;have h2:=Q9X S.l;have hf:(Q1T S.l 8).length=fr.length:=by rw [ok.inv.mem.frs.length_eq,J4g]
 have hk:∀k,1<=k->k<=5->(Q1T S.l k).length=(S.P.usedOf k).length:=fun k a b=>(ok.inv.mem.ats k a b).length_eq
 have h0:(S.P.usedOf 0).length=0:=by
  cases hu:S.P.usedOf 0 with
  | nil=>rfl
  | cons a r =>
   have:=Q1Y ok.inv.mem.pool (k:=0) (a:=a) (by rw [hu];simp);omega
 have e:((List.range 8).map fun k=>(S.P.usedOf k).length).sum=(S.P.usedOf 0).length+((S.P.usedOf 1).length+((S.P.usedOf 2).length+((S.P.usedOf 3).length+((S.P.usedOf 4).length+((S.P.usedOf 5).length+((S.P.usedOf 6).length+((S.P.usedOf 7).length+0))))))):=rfl;have q1:=hk 1 (by omega) (by omega);have q2:=hk 2 (by omega) (by omega);have q3:=hk 3 (by omega) (by omega);have q4:=hk 4 (by omega) (by omega);have q5:=hk 5 (by omega) (by omega);omega
theorem J1X {Z:SP} {fr:List Nat} {N K:Nat} (ok:Z.S.Ok fr N K) (t:TPI Z.S Z.tb) {own:Int} {e:En Fa} (he:find Z.S.P.q.E own=some e) {i s:Nat} {er:Int} {o lv nd:Nat} (ho:(Z.S.l.filter Pl.is).length<=o) (hl:(Q2S Z.tb).length<=lv) (hn:(Q3g Z.tb).length<=nd) (hp:o+lv+nd+1<64)
  (hq:Q0v Z.S.l own+256*(lv:Int)+48*(nd:Int)+304<=e.q.limit-e.q.given):¬WhyL Z fr own i s er:=by
 have hc:=Z4c ok;have h7:=t.lvs.length_eq;have h6:=t.nds.length_eq;have htop:=ok.inv.mem.pool.top;have hpow:64<=2 ^ Z.S.P.d.top:=J2y (by decide:64<=2 ^ 6) (J3L (by omega) htop);have hch:=ok.inv.tre.charged own e he;have hx:=Z1f Z.S.l Z.tb own;rw [t.xc] at hch;rintro (⟨_,e',he',hlow⟩|⟨_,hno⟩|⟨a,P1,g,_,⟨_,e',he',hlow⟩|⟨_,hno⟩⟩)
 ·rw [he] at he';cases he';unfold Q0w at hlow;omega
 ·have:=hno.page.len;omega
 ·obtain⟨e0,he0,_,hE⟩:=g.q;rw [he] at he0;cases he0;rw [hE] at he';have hf:=Q0h he {e.q with charged:=e.q.charged+((Q0c 6:Nat):Int)};rw [show ({Z.S.P.q with E:=upd Z.S.P.q.E own {e.q with charged:=e.q.charged+((Q0c 6:Nat):Int)}}:QT).E=upd Z.S.P.q.E own {e.q with charged:=e.q.charged+((Q0c 6:Nat):Int)} from rfl,hf] at he';cases he';unfold Q0w at hlow;simp only [Q5d] at hlow;omega
 ·have h1:=hno.page.len;have h2:=(g.gotM ok.inv.mem.pool).few;rw [g.top] at h1;omega
end Go.Proofs.YtlakjlmaboioiaaGreatDoor
