/- What the laws of spaces share is proved. No condition. Part of a proof. -/
import Derived.Test.YtfidemmgofcnmaaGreatDoorBz11
import Derived.DeepKeys3
set_option maxHeartbeats 4000000
set_option linter.unusedVariables false
namespace Go.Proofs.YtfidemmgofcnmaaGreatDoor
open Go.RowKit Go.Proofs.Tryz
theorem Z8O{w:World}{H:HL}(h:Sep w H)(top:Nat)(h1:6<=top)(h2:top<=20)(limit:Int)(h0:64<=limit)(hl:limit<=((2 ^ (top+10):Nat):Int))(period:Nat)(A3:1<=period)(Az:period<=16) :
  Calls prog 78 #[.int .i64 ((2 ^ (top+10):Nat):Int),.int .i64 limit,.int .i64 period] w (Z8M top limit period H w):=by
 have b2:2 ^ (top+10)<=1073741824:=J3i (J4p (by omega) (by omega)) (by decide:2 ^ 30<=1073741824);have k1:=Z8w h top h1 h2 limit (by omega) hl;have HQ:Hid (∀r w1,J1i top limit H w r w1->∃pp,r=.returned (.pointer (some ⟨pp,0,none⟩))/\Calls prog 147 #[] w1 fun r w2=>∃t,r=.returned (.pointer (some ⟨t,0,none⟩)) /\
   Calls prog 148 #[.int .i64 period] w2 fun r w3=>∃g,r=.returned (.pointer (some ⟨g,0,none⟩)) /\
    (w3.alloc (.cells #[.pointer (some ⟨pp,0,none⟩),.pointer (some ⟨t,0,none⟩),.pointer (some ⟨g,0,none⟩)] 187)).cell? ⟨w3.heap.size,0,none⟩=some (.pointer (some ⟨pp,0,none⟩)) /\
    (w3.alloc (.cells #[.pointer (some ⟨pp,0,none⟩),.pointer (some ⟨t,0,none⟩),.pointer (some ⟨g,0,none⟩)] 187)).cell? ⟨w3.heap.size,2,none⟩=some (.pointer (some ⟨g,0,none⟩)) /\
    Calls prog 15 #[.pointer (some ⟨pp,0,none⟩),.int .i64 0,.int .i64 1] (w3.alloc (.cells #[.pointer (some ⟨pp,0,none⟩),.pointer (some ⟨t,0,none⟩),.pointer (some ⟨g,0,none⟩)] 187)) fun r w4=>r=.returned (.tuple #[.int .i64 64,.int .i64 0])/\w4.cell? ⟨w3.heap.size,1,none⟩=some (.pointer (some ⟨t,0,none⟩)) /\
     Calls prog 149 #[.pointer (some ⟨t,0,none⟩),.agg #[.int .i64 1,.int .i64 64,.int .i64 0]] w4 fun r w5=>(∃x y:Value,r=.returned (.tuple #[x,y]))/\Z8M top limit period H w (.returned (.pointer (some ⟨w3.heap.size,0,none⟩))) w5):=by
  rintro r w1⟨P,rfl,Ab,hf,s1⟩;refine⟨P.p,rfl,(Z8K s1.sep).mono ?_⟩;rintro r w2⟨t,rfl,s2⟩;refine⟨t,rfl,(Z8D s2.sep period A3 Az).mono ?_⟩;rintro r w3⟨g,rfl,s3⟩;exact⟨g,rfl,Z5T hf Ab h1 h0 (by omega) A3 Az s1 s2 s3⟩
 generalize Z8M top limit period H w=Q at *
 clear h;go_enter func78,ntmps78;go_wp2_with fail;refine k1.mono ?_;intro r w1 hx;obtain⟨pp,rfl,ht⟩:=HQ.out _ _ hx;have HT:=Q0a ht;clear hx ht HQ k1;go_wp2_with fail;refine HT.out.mono ?_;rintro r w2⟨t,rfl,hg⟩;have HG:=Q0a hg;clear hg HT;go_wp2_with fail;refine HG.out.mono ?_;rintro r w3⟨g,rfl,c0,c2,CM⟩;have Cm:=Q0a CM;clear CM HG;go_wp2_with fail;refine Cm.out.mono ?_;rintro r w4⟨rfl,c1,B7⟩;have Ny:=Q0a B7;clear B7 Cm c0 c2;go_wp2_with fail;refine Ny.out.mono ?_;rintro r w5⟨⟨x,y,rfl⟩,hq⟩;have HX:=Q0a hq;clear hq Ny c1;go_wp2_with fail
 (try go_ret);exact HX.out
def Aside(H:HL)(L:List Nat)(a:Option Addr)(w:World):Prop:=∀(j x:Nat),L[j]?=some x->∃g,a=some ⟨g,0,none⟩/\g∉keys H/\g<w.heap.size/\w.cell? ⟨g,j,none⟩=some (.int .u32 x)
theorem Aside.step{H H':HL}{L:List Nat}{a:Option Addr}{w w':World}(h:Aside H L a w)(st:Step H H' w w'):Aside H' L a w':=fun j x hj=>by
 obtain⟨g,h1,h2,h3,h4⟩:=h j x hj;refine⟨g,h1,fun hk=>?_,J3j h3 st.chg.size,(World.cell?_of_block (w:=w) (st.chg.block g h3 h2)).trans h4⟩;rcases st.new g hk with h'|h'
 ·exact h2 h'
 ·omega
theorem NewHs.aside{w w':World}{H:HL}{L:List Nat}{r:Ending}(h:NewHs w L r w')(hs:Sep w H):∃(a:Option Addr) (cap:Nat),r=.returned (.slice a L.length cap)/\Below w.heap.size w w'/\Aside H L a w':=by
 obtain⟨a,cap,e,hb,hi⟩:=h.shape;refine⟨a,cap,e,hb,fun j x hj=>?_⟩;obtain⟨g,h1,h2,h3,h4⟩:=hi.at' j x hj;exact⟨g,h1,fun hk=>by have:=hs.lt hk;omega,h3,h4⟩
structure Able(S:CO)(f:Pl)(e:En Fa)(n:Nat)(lim:Int)(i:Nat)(p:Pl):Prop where
 kind:f.kind=1
 may:n=8∨1<=n/\n<=5
 acc:find S.P.q.E f.own=some e
 cost:((costK n:Nat):Int)<=Q0u e
 page:S.P.d.ps.length<2 ^ S.P.d.top
 place:Fst S.l i p
 lim:n=1->0<=lim/\lim<=Q0u e-64/\S.P.q.E.length<32
theorem MakeR.able{S:CO}{fr:List Nat}{h:Nat}{n:Nat}{lim:Int}{w w':World}{r:Ending}(m:MakeR S fr h (n:Int) lim w r w'){f:Pl}(hf:pget S.l 1 h=some f){e:En Fa}{i:Nat}{p:Pl}(a:Able S f e n lim i p) :
  ∃b x P' fr',r=two (nm i p) 0/\MadeOk S fr f e n b lim x i p P' fr'/\Step S.hl (S.made f n b x i p P').hl w w':=by
 rcases m with ⟨h0,_⟩|⟨f',Tc,hm⟩
 ·rw[hf] at h0;cases h0
 ·rw[hf] at Tc;cases Tc;rcases hm with ⟨h0,_⟩|⟨_,hc,_⟩|⟨n',e',hn,_,_,_,he,hk⟩
  ·exact absurd a.kind h0
  ·exfalso;have:=a.may;rcases hc with h1|⟨h1,h2⟩
   ·apply h1;omega
   ·have:=a.lim (by omega);omega
  ·have:n'=n:=by omega
   subst this;rw[a.acc] at he;cases he;rcases hk with ⟨h0,_⟩|⟨_,h0,_⟩|⟨_,er,P',hc,_⟩|⟨i',p',b,x,P',fr',h1,h2,h3,_,rfl,hm,st⟩
   ·have:=a.cost;omega
   ·have:=h0.len;have:=a.page;omega
   ·exfalso;obtain⟨p1,p2,p3⟩:=a.place;rcases hc with ⟨_,h1|⟨h1,h2⟩⟩|⟨_,h1,h2⟩
    ·exact h1 p (J5p p1) p2
    ·have:=a.lim h1;omega
    ·have:=a.lim h1;omega
   ·obtain⟨p1,p2,p3⟩:=a.place;have hi:i'=i:=by
     rcases J6c i' i with h|h|h
     ·exact absurd h2 (p3 i' p' h h1)
     ·exact h
     ·exact absurd p2 (h3 i p h p1)
    subst hi;rw[p1] at h1;cases h1;exact⟨b,x,P',fr',rfl,hm,st⟩
structure Ent where
 h:Nat
 r:Nat
 nd:Nat
def Ent.a(e:Ent):Nat:=e.h+1+4294967296*e.r
def Q0t:Option Ent->Nat
 | none=>0
 | some e=>e.a
def Q0T:Option Ent->Nat
 | none=>0
 | some e=>e.nd
theorem codeA_zero{o:Option Ent}:Q0t o=0↔o=none:=by
 cases o with
 | none=>simp[Q0t]
 | some e=>simp[Q0t,Ent.a]
structure TB where
 lf:Nat->Nat
 en:Nat->Option Ent
def TB.emp:TB:=⟨fun _=>0,fun _=>none⟩
structure TB.In(t:TB)(m:List Nat)(a:Nat):Prop where
 root:∀k,k<16->Q0m m (a+8*k)=t.lf k
 ent:∀s,s<256->t.lf (s/16)≠0->Q0m m (t.lf (s/16)+16*(s%16))=Q0t (t.en s)/\Q0m m (t.lf (s/16)+16*(s%16)+8)=Q0T (t.en s)
 hole:∀s,s<256->t.lf (s/16)=0->t.en s=Option.none
def TB.Full(t:TB):Prop:=∀k,k<16->t.lf k≠0->∃s,s<256/\s/16=k/\t.en s≠none
def TB.Nil(t:TB):Prop:=(∀k,k<16->t.lf k=0)/\∀s,s<256->t.en s=none
theorem TB.emp_nil:TB.emp.Nil:=⟨fun _ _=>rfl,fun _ _=>rfl⟩
theorem TB.In.kept{t:TB}{m m':List Nat}{a:Nat}(h:t.In m a)(k1:Kept m m' a 128)(k2:∀k,k<16->t.lf k≠0->Kept m m' (t.lf k) 256):t.In m' a:=by
 refine⟨fun k hk=>?_,fun s hs hl=>?_,h.hole⟩
 ·rw[(k1.sub (b:=a+8*k) (k:=8) (by omega) (by omega)).word];exact h.root k hk
 ·have:=k2 (s/16) (by omega) hl;rw[(this.sub (b:=t.lf (s/16)+16*(s%16)) (k:=8) (by omega) (by omega)).word,(this.sub (b:=t.lf (s/16)+16*(s%16)+8) (k:=8) (by omega) (by omega)).word];exact h.ent s hs hl
theorem TB.Nil.new{t:TB}(hn:t.Nil){m:List Nat}{a:Nat}(h:∀j,a<=j->j<a+128->m[j]?=some 0):t.In m a:=by
 refine⟨fun k hk=>?_,fun s hs hl=>absurd (hn.1 (s/16) (by omega)) hl,fun s hs _=>hn.2 s hs⟩;have:(m.drop (a+8*k)).take 8=List.replicate 8 0:=by
  apply J4J
  intro j;rw[J5e,J5c];split
  ·rw[J5D];exact h _ (by omega) (by omega)
  ·rfl
 unfold Q0m;rw[this,hn.1 k hk];rfl
theorem TB.Nil.full{t:TB}(hn:t.Nil):t.Full:=fun k hk h=>absurd (hn.1 k hk) h
def TB.setE(t:TB)(s:Nat)(o:Option Ent):TB:={t with en:=fun x=>if x=s then o else t.en x}
def TB.setL(t:TB)(k a:Nat):TB:={t with lf:=fun x=>if x=k then a else t.lf x}
theorem TB.In.set{t:TB}{m m':List Nat}{a s:Nat}{o:Option Ent}(h:t.In m a)(hs:s<256)(hl:t.lf (s/16)≠0)(hk:∀b n,b+n<=t.lf (s/16)+16*(s%16)∨t.lf (s/16)+16*(s%16)+16<=b->Kept m m' b n)
  (ha:Q0m m' (t.lf (s/16)+16*(s%16))=Q0t o) (hb:Q0m m' (t.lf (s/16)+16*(s%16)+8)=Q0T o) (Bb:a+128<=t.lf (s/16)∨t.lf (s/16)+256<=a)
  (EW:∀k,k<16->k≠s/16->t.lf k≠0->t.lf k+256<=t.lf (s/16)∨t.lf (s/16)+256<=t.lf k):(t.setE s o).In m' a:=by
 refine⟨fun k BC=>?_,fun x hx CW=>?_,fun x hx CW=>?_⟩
 ·show Q0m m' _=t.lf k;rw[(hk (a+8*k) 8 (by omega)).word];exact h.root k BC
 ·have Fd:t.lf (x/16)≠0:=CW;show Q0m m' (t.lf (x/16)+_)=Q0t (if x=s then o else t.en x)/\Q0m m' (t.lf (x/16)+_+8)=Q0T (if x=s then o else t.en x);by_cases e:x=s
  ·subst e;rw[if_pos rfl];exact⟨ha,hb⟩
  ·rw[if_neg e];by_cases e2:x/16=s/16
   ·rw[e2] at Fd ⊢;have Ac:x%16≠s%16:=by omega
    have h0:=h.ent x hx (by rw[e2];exact Fd);rw[e2] at h0;rw[(hk (t.lf (s/16)+16*(x%16)) 8 (by omega)).word,(hk (t.lf (s/16)+16*(x%16)+8) 8 (by omega)).word];exact h0
   ·have:=EW (x/16) (by omega) e2 Fd;rw[(hk (t.lf (x/16)+16*(x%16)) 8 (by omega)).word,(hk (t.lf (x/16)+16*(x%16)+8) 8 (by omega)).word];exact h.ent x hx Fd
 ·have Fd:t.lf (x/16)=0:=CW;show(if x=s then o else t.en x)=none;by_cases e:x=s
  ·subst e;exact absurd Fd hl
  ·rw[if_neg e];exact h.hole x hx Fd
theorem TB.In.grow{t:TB}{m m':List Nat}{a k L:Nat}(h:t.In m a)(hk:k<16)(hl:t.lf k=0)(hL:L≠0)(B6:Q0m m' (a+8*k)=L)(hz:∀j,L<=j->j<L+256->m'[j]?=some 0)
  (hr:∀x,x<16->x≠k->Kept m m' (a+8*x) 8) (EW:∀x,x<16->t.lf x≠0->Kept m m' (t.lf x) 256):(t.setL k L).In m' a:=by
 refine⟨fun x hx=>?_,fun s hs hsl=>?_,fun s hs hsl=>?_⟩
 ·show Q0m m' _=if x=k then L else t.lf x
  by_cases e:x=k
  ·subst e;rw[if_pos rfl];exact B6
  ·rw[if_neg e,(hr x hx e).word];exact h.root x hx
 ·show Q0m m' ((if s/16=k then L else t.lf (s/16))+_)=Q0t (t.en s)/\Q0m m' ((if s/16=k then L else t.lf (s/16))+_+8)=Q0T (t.en s);by_cases e:s/16=k
  ·rw[if_pos e];have hn:=h.hole s hs (by rw[e];exact hl);rw[hn];have zw:∀b,L<=b->b+8<=L+256->Q0m m' b=0:=fun b h1 h2=>by
    have:(m'.drop b).take 8=List.replicate 8 0:=by
     apply J4J
     intro j;rw[J5e,J5c];split
     ·rw[J5D];exact hz _ (by omega) (by omega)
     ·rfl
    unfold Q0m;rw[this];rfl
   exact⟨zw _ (by omega) (by omega),zw _ (by omega) (by omega)⟩
  ·rw[if_neg e];have EY:t.lf (s/16)≠0:=by
    have:(if s/16=k then L else t.lf (s/16))≠0:=hsl
    rwa [if_neg e] at this
   have:=EW (s/16) (by omega) EY;rw[(this.sub (b:=t.lf (s/16)+16*(s%16)) (k:=8) (by omega) (by omega)).word,(this.sub (b:=t.lf (s/16)+16*(s%16)+8) (k:=8) (by omega) (by omega)).word];exact h.ent s hs EY
 ·have EY:(if s/16=k then L else t.lf (s/16))=0:=hsl;show t.en s=none;by_cases e:s/16=k
  ·rw[if_pos e] at EY;exact absurd EY hL
  ·rw[if_neg e] at EY;exact h.hole s hs EY
theorem TB.In.drop{t:TB}{m m':List Nat}{a k:Nat}(h:t.In m a)(hk:k<16)(he:∀s,s<256->s/16=k->t.en s=none)(B6:Q0m m' (a+8*k)=0)
  (hr:∀x,x<16->x≠k->Kept m m' (a+8*x) 8) (EW:∀x,x<16->x≠k->t.lf x≠0->Kept m m' (t.lf x) 256):(t.setL k 0).In m' a:=by
 refine⟨fun x hx=>?_,fun s hs hsl=>?_,fun s hs hsl=>?_⟩
 ·show Q0m m' _=if x=k then 0 else t.lf x
  by_cases e:x=k
  ·subst e;rw[if_pos rfl];exact B6
  ·rw[if_neg e,(hr x hx e).word];exact h.root x hx
 ·have Fe:(if s/16=k then 0 else t.lf (s/16))≠0:=hsl;have e:s/16≠k:=fun e=>Fe (by rw[if_pos e])
  rw[if_neg e] at Fe;show Q0m m' ((if s/16=k then 0 else t.lf (s/16))+_)=Q0t (t.en s)/\Q0m m' ((if s/16=k then 0 else t.lf (s/16))+_+8)=Q0T (t.en s);rw[if_neg e];have:=EW (s/16) (by omega) e Fe;rw[(this.sub (b:=t.lf (s/16)+16*(s%16)) (k:=8) (by omega) (by omega)).word,(this.sub (b:=t.lf (s/16)+16*(s%16)+8) (k:=8) (by omega) (by omega)).word];exact h.ent s hs Fe
 ·have Fe:(if s/16=k then 0 else t.lf (s/16))=0:=hsl;show t.en s=none;by_cases e:s/16=k
  ·exact he s hs e
  ·rw[if_neg e] at Fe;exact h.hole s hs Fe
def TB.lvs(t:TB):List Nat:=(List.range 16).filterMap fun k=>if t.lf k=0 then none else some (t.lf k)
def TB.nds(t:TB):List Nat:=(List.range 256).filterMap fun s=>(t.en s).map Ent.nd
def TB.cost(t:TB):Int:=256*(t.lvs.length:Int)+48*(t.nds.length:Int)
theorem mem_lvs{t:TB}{a:Nat}:a∈t.lvs↔∃k,k<16/\t.lf k=a/\a≠0:=by
 unfold TB.lvs;simp only[J3w,J3x]
 constructor
 ·rintro⟨k,hk,h⟩;split at h
  ·cases h
  ·rename_i h0;cases h;exact⟨k,hk,rfl,h0⟩
 ·rintro⟨k,hk,rfl,h0⟩;exact⟨k,hk,by rw[if_neg h0]⟩
theorem mem_nds{t:TB}{a:Nat}:a∈t.nds↔∃s e,s<256/\t.en s=some e/\e.nd=a:=by
 unfold TB.nds;simp only[J3w,J3x]
 constructor
 ·rintro⟨s,hs,h⟩;obtain⟨e,h1,h2⟩:=J6V.1 h;exact⟨s,e,hs,h1,h2⟩
 ·rintro⟨s,e,hs,h1,h2⟩;exact⟨s,hs,by rw[h1,<- h2];rfl⟩
theorem Q2q{α β:Type}{f g:α->Option β}:∀{l:List α},(∀x∈l,f x=g x)->l.filterMap f=l.filterMap g
 | [],_=>rfl
 | x::r,h=>by rw[J3u,J3u,h x (by simp),Q2q (l:=r) fun y hy=>h y (by simp[hy])]
theorem Q8b{α β:Type}(f g:Nat->Option β)(n i:Nat)(hi:i<n)(h:∀j,j<n->j≠i->g j=f j):∃A B,(List.range n).filterMap f=A++(f i).toList++B/\(List.range n).filterMap g=A++(g i).toList++B:=by
 have e:List.range n=List.range i++i::(List.range' (i+1) (n-(i+1))):=by
  rw[List.range_eq_range',List.range_eq_range'];have h1:List.range' 0 n=List.range' 0 i++List.range' i (n-i):=by
   have:=List.range'_append (s:=0) (m:=i) (n:=n-i) (step:=1);simp only[Nat.one_mul,J5F] at this;rw[this];congr 1;omega
  rw[h1];congr 1;have:n-i=(n-(i+1))+1:=by omega
  rw[this,List.range'_succ]
 have s1:∀(f:Nat->Option β),(List.range n).filterMap f=(List.range i).filterMap f++(f i).toList++(List.range' (i+1) (n-(i+1))).filterMap f:=fun f=>by
  rw[e,J3t,J3u];cases f i <;> simp
 refine⟨(List.range i).filterMap f,(List.range' (i+1) (n-(i+1))).filterMap f,s1 f,?_⟩;rw[s1 g];have c1:(List.range i).filterMap g=(List.range i).filterMap f:=Q2q fun j hj=>h j (by have:=J3x.1 hj;omega) (by have:=J3x.1 hj;omega)
 have c2:(List.range' (i+1) (n-(i+1))).filterMap g=(List.range' (i+1) (n-(i+1))).filterMap f:=Q2q fun j hj=>by
  have:=List.mem_range'_1.1 hj;exact h j (by omega) (by omega)
 rw[c1,c2]
theorem TB.nds_set{t:TB}{s:Nat}(hs:s<256){e:Ent}(h0:t.en s=none):(t.setE s (some e)).nds.Perm (e.nd::t.nds):=by
 obtain⟨A,B,e1,e2⟩:=Q8b (α:=Nat) (fun s=>(t.en s).map Ent.nd) (fun x=>((t.setE s (some e)).en x).map Ent.nd) 256 s hs (fun j _ hj=>by simp[TB.setE,hj]);unfold TB.nds;rw[e1,e2];simp only[TB.setE,if_true,h0,J4P,Option.map_none,J6W,J6X,J5h];rw[J4b];exact J6F
theorem TB.nds_clr{t:TB}{s:Nat}(hs:s<256){e:Ent}(h0:t.en s=some e):t.nds.Perm (e.nd::(t.setE s none).nds):=by
 obtain⟨A,B,e1,e2⟩:=Q8b (α:=Nat) (fun s=>(t.en s).map Ent.nd) (fun x=>((t.setE s none).en x).map Ent.nd) 256 s hs (fun j _ hj=>by simp[TB.setE,hj]);unfold TB.nds;rw[e1,e2];simp only[TB.setE,if_true,h0,J4P,Option.map_none,J6W,J6X,J5h];rw[J4b];exact J6F
theorem TB.nds_same{t:TB}{s:Nat}(hs:s<256){e e':Ent}(h0:t.en s=some e)(hn:e'.nd=e.nd):(t.setE s (some e')).nds=t.nds:=by
 unfold TB.nds;refine Q2q fun x _=>?_
 by_cases h:x=s
 ·subst h;simp[TB.setE,h0,hn]
 ·simp[TB.setE,h]
theorem TB.lvs_new{t:TB}{k a:Nat}(hk:k<16)(h0:t.lf k=0)(ha:a≠0):(t.setL k a).lvs.Perm (a::t.lvs):=by
 obtain⟨A,B,e1,e2⟩:=Q8b (α:=Nat) (fun k=>if t.lf k=0 then none else some (t.lf k)) (fun x=>if (t.setL k a).lf x=0 then none else some ((t.setL k a).lf x)) 16 k hk (fun j _ hj=>by simp[TB.setL,hj]);unfold TB.lvs;rw[e1,e2];simp only[TB.setL,if_true,h0,if_neg ha,J6W,J6X,J5h];rw[J4b];exact J6F
theorem TB.lvs_drop{t:TB}{k:Nat}(hk:k<16)(h0:t.lf k≠0):t.lvs.Perm (t.lf k::(t.setL k 0).lvs):=by
 obtain⟨A,B,e1,e2⟩:=Q8b (α:=Nat) (fun k=>if t.lf k=0 then none else some (t.lf k)) (fun x=>if (t.setL k 0).lf x=0 then none else some ((t.setL k 0).lf x)) 16 k hk (fun j _ hj=>by simp[TB.setL,hj]);unfold TB.lvs;rw[e1,e2];simp only[TB.setL,if_true,if_neg h0,J6W,J6X,J5h];rw[J4b];exact J6F
theorem TB.Nil.lists{t:TB}(hn:t.Nil):t.lvs=[]/\t.nds=[]/\t.cost=0:=by
 have h1:t.lvs=[]:=by
  apply J6Y.2
  intro a ha;obtain⟨k,hk,e,h0⟩:=mem_lvs.1 ha;rw[hn.1 k hk] at e;exact h0 e.symm
 have h2:t.nds=[]:=by
  apply J6Y.2
  intro a ha;obtain⟨s,e,hs,h,_⟩:=mem_nds.1 ha;rw[hn.2 s hs] at h;cases h
 refine⟨h1,h2,?_⟩;unfold TB.cost;rw[h1,h2];rfl
theorem TB.cost_nn(t:TB):0<=t.cost:=by unfold TB.cost;omega
def xcP(tb:Nat->TB)(id:Int)(i:Nat)(o:Option Pl):Int:=match o with
 | some p=>if (p.fac:Int)=id then(tb i).cost else 0
 | none=>0
def xcOf(l:List Pl)(tb:Nat->TB)(id:Int):Int:=((List.range 256).map fun i=>xcP tb id i l[i]?).sum
def Q1Z(tb:Nat->TB):List Nat:=(List.range 256).flatMap fun i=>(tb i).lvs
def Q2r(tb:Nat->TB):List Nat:=(List.range 256).flatMap fun i=>(tb i).nds
structure TPI(S:CO)(tb:Nat->TB):Prop where
 tin:∀(i:Nat) (p:Pl),S.l[i]?=some p->p.st=1->p.kind=2->(tb i).In S.P.a.mem p.at_
 full:∀i,i<256->(tb i).Full
 nil:∀(i:Nat) (p:Pl),S.l[i]?=some p->¬(p.st=1/\p.kind=2)->(tb i).Nil
 lvs:(Q1Z tb).Perm (S.P.usedOf 7)
 nds:(Q2r tb).Perm (S.P.usedOf 6)
 xc:∀id,S.xc id=xcOf S.l tb id
theorem Q5M{n:Nat}{f g:Nat->Int}(h:∀i,i<n->f i=g i):((List.range n).map f).sum=((List.range n).map g).sum:=by
 congr 1;exact J5k fun i hi=>h i (J3x.1 hi)
theorem Q7h{l l':List Pl}{tb tb':Nat->TB}{id:Int}(h:∀i,i<256->xcP tb id i l[i]?=xcP tb' id i l'[i]?):xcOf l tb id=xcOf l' tb' id:=Q5M h
theorem Z8P{l:List Pl}{tb:Nat->TB}{i:Nat}{q:Pl}(hi:i<l.length)(hn:(tb i).Nil)(id:Int):xcOf (l.set i q) tb id=xcOf l tb id:=by
 refine Q7h fun j hj=>?_
 by_cases e:i=j
 ·subst e;have h0:=(TB.Nil.lists hn).2.2;have hp:∀o,xcP tb id i o=0:=fun o=>by
   unfold xcP;cases o with
   | none=>rfl
   | some p=>simp only[h0];split <;> rfl
  rw[hp,hp]
 ·rw[J6H e]
theorem Q2C:Q0e 7=256:=rfl
theorem Q4H:Q0e 6=48:=rfl
theorem Z5U:costK 2=128:=rfl
theorem TPI.leaf{S:CO}{tb:Nat->TB}(t:TPI S tb){i k:Nat}(hi:i<256)(hk:k<16)(h:(tb i).lf k≠0):(tb i).lf k∈S.P.usedOf 7:=by
 refine t.lvs.mem_iff.1 (J3G.2 ⟨i,J3x.2 hi,mem_lvs.2 ⟨k,hk,rfl,h⟩⟩)
theorem Q1C{l:List Pl}(hl:l.length=256){i:Nat}{p:Pl}(h:l[i]?=some p):i<256:=by
 have:=(J3y.1 h).1;omega
theorem TPI.tin_kept{S:CO}{tb:Nat->TB}(hl:S.l.length=256)(t:TPI S tb){m:List Nat}(k1:∀(i:Nat) (p:Pl),S.l[i]?=some p->p.st=1->p.kind=2->Kept S.P.a.mem m p.at_ 128)(k2:∀a,a∈S.P.usedOf 7->Kept S.P.a.mem m a 256){i:Nat}{p:Pl}(hi:S.l[i]?=some p)(h1:p.st=1)(h2:p.kind=2):(tb i).In m p.at_:=
 (t.tin i p hi h1 h2).kept (k1 i p hi h1 h2) fun k hk Ac=>k2 _ (t.leaf (Q1C hl hi) hk Ac)
theorem TPI.tried{S:CO}{tb:Nat->TB}{fr:List Nat}{N K:Nat}(ok:S.Ok fr N K)(t:TPI S tb){P':PL}(h:Tried S.P fr S.l P'):TPI (S.setP P') tb:=by
 refine⟨fun i p hi h1 h2=>?_,t.full,t.nil,t.lvs.trans (h.used 7).symm,t.nds.trans (h.used 6).symm,t.xc⟩;refine t.tin_kept ok.inv.len (fun j q hj q1 q2=>?_) (fun a ha=>h.memH 7 a (by omega) ha) hi h1 h2;have:=h.mem q (J5p hj) (Pl.is_iff.2 (.inl q1));rw[q2] at this;exact this
theorem TPI.made{S:CO}{tb:Nat->TB}{fr fr':List Nat}{N K:Nat}(ok:S.Ok fr N K)(t:TPI S tb){f p:Pl}{e:En Fa}{n a x i:Nat}{lim:Int}{P':PL}(m:MadeOk S fr f e n a lim x i p P' fr')(hi:S.l[i]?=some p)(hp:p.st=0):TPI (S.made f n a x i p P') tb:=by
 have Ar:=Q1C ok.inv.len hi;have Et:=t.nil i p hi (by omega);have Aa:i<S.l.length:=(J3y.1 hi).1;refine⟨fun j q hj q1 q2=>?_,t.full,fun j q hj hq=>?_,t.lvs.trans (m.high 7 (by omega)).symm,t.nds.trans (m.high 6 (by omega)).symm,fun id=>?_⟩
 ·have Bn:(S.l.set i ⟨n,a,f.own,1,p.age,x⟩)[j]?=some q:=hj;by_cases e:i=j
  ·subst e;rw[J6P Aa] at Bn;cases Bn;have Wz:n=2:=q2;refine Et.new fun y h1 h2=>m.zero (by omega) y h1 ?_
   rw[Wz,Z5U];exact h2
  ·rw[J6H e] at Bn;refine t.tin_kept ok.inv.len (fun k r hk r1 r2=>?_) (fun b hb=>m.memH 7 b (by omega) hb) Bn q1 q2;have:=m.kept r (J5p hk) (Pl.is_iff.2 (.inl r1));rw[r2] at this;exact this
 ·have Bn:(S.l.set i ⟨n,a,f.own,1,p.age,x⟩)[j]?=some q:=hj;by_cases e:i=j
  ·subst e;exact Et
  ·rw[J6H e] at Bn;exact t.nil j q Bn hq
 ·show S.xc id=xcOf (S.l.set i _) tb id;rw[Z8P Aa Et,t.xc]
def CO.paid(S:CO)(P':PL)(own:Int)(d:Int):CO:={S with P:=P',xc:=fun id=>if id=own then S.xc id+d else S.xc id}
theorem TreI.pay{E:List (En Fa)}{l:List Pl}{xc:Int->Int}(t:TreI E l xc)(Ai:E.Pairwise (fun a b=>a.id≠b.id)){own:Int}{e:En Fa}(hf:find E own=some e)(d:Int):TreI (upd E own {e.q with charged:=e.q.charged+d}) l (fun id=>if id=own then xc id+d else xc id):=by
 have No:∀a,Q3G (upd E own {e.q with charged:=e.q.charged+d}) a=Q3G E a:=fun a=>Q4D Ai hf _ _ rfl
 have JK:∀a,Q3H (upd E own {e.q with charged:=e.q.charged+d}) a=Q3H E a:=fun a=>Q4D Ai hf _ _ rfl
 refine⟨by rw[Q2p];exact t.ids,fun p hp A4=>?_,fun p hp A4 hk x hx=>?_,fun id x hx=>?_,fun id x hx=>?_⟩
 ·obtain⟨y,hy⟩:=t.fac p hp A4;exact Q2d _ hy
 ·obtain⟨y,hy,h1,h2⟩:=Q0I _ hf hx;have:=t.par p hp A4 hk y hy;by_cases hid:(p.own:Int)=own
  ·obtain⟨rfl,e2⟩:=h1 hid;rw[e2];exact this
  ·rw[h2 hid];exact this
 ·obtain⟨y,hy,h1,h2⟩:=Q0I _ hf hx;have:=t.charged id y hy;by_cases hid:id=own
  ·obtain⟨rfl,e2⟩:=h1 hid;rw[e2,if_pos hid];show y.q.charged+d=_;omega
  ·rw[h2 hid,if_neg hid];exact this
 ·obtain⟨y,hy,h1,h2⟩:=Q0I _ hf hx;have:=t.given id y hy;rw[No,JK];by_cases hid:id=own
  ·obtain⟨rfl,e2⟩:=h1 hid;rw[e2];exact this
  ·rw[h2 hid];exact this
theorem CO.Ok.paid{S:CO}{fr:List Nat}{N K:Nat}(ok:S.Ok fr N K){P':PL}{own:Int}{e:En Fa}{d:Int}(B9:P'.Ok fr)(he:find S.P.q.E own=some e)(hE:P'.q={S.P.q with E:=upd S.P.q.E own {e.q with charged:=e.q.charged+d}})(hu:∀j,1<=j->j<=5->P'.usedOf j=S.P.usedOf j)(hw:∀b∈S.P.usedOf 1,Q0m P'.a.mem b=Q0m S.P.a.mem b)
  (G0:0<=S.xc own+d) (hlive:S.xc own+d≠0->∃p∈S.l,p.st=1/\(p.fac:Int)=own):(S.paid P' own d).Ok fr N K:=by
 have v:=ok.inv;refine⟨⟨v.len,v.st,v.mem.same B9 hu hw,?_,?_⟩,ok.per,ok.due,ok.ord,ok.ov,?_,ok.now,ok.age⟩
 ·show TreI P'.q.E S.l _;rw[hE];exact v.tre.pay v.mem.pool.q.ids he d
 ·refine⟨v.que.root,v.que.live,fun id=>?_,v.que.nd,v.que.has,v.que.ord⟩;show 0<=(if id=own then S.xc id+d else S.xc id)/\((if id=own then S.xc id+d else S.xc id)≠0->_);split
  ·rename_i h;subst h;exact⟨G0,hlive⟩
  ·exact v.que.xc id
 ·show P'.q.next<=N;rw[hE];exact ok.next
theorem CO.Ok.stored{S:CO}{fr:List Nat}{N K:Nat}(ok:S.Ok fr N K){m:List Nat}(hl:m.length=S.P.a.mem.length)(hb:∀b∈m,b<256)(hw:∀b∈S.P.usedOf 1,Q0m m b=Q0m S.P.a.mem b):(S.setP (S.P.setA m)).Ok fr N K:=by
 have v:=ok.inv;exact⟨⟨v.len,v.st,v.mem.same (PL.ok_setA v.mem.pool hl hb) (fun _ _ _=>rfl) hw,v.tre,v.que⟩,ok.per,ok.due,ok.ord,ok.ov,ok.next,ok.now,ok.age⟩
structure TPX(S:CO)(tb:Nat->TB)(own:Int)(xl xn:List Nat):Prop where
 tin:∀(i:Nat) (p:Pl),S.l[i]?=some p->p.st=1->p.kind=2->(tb i).In S.P.a.mem p.at_
 nil:∀(i:Nat) (p:Pl),S.l[i]?=some p->¬(p.st=1/\p.kind=2)->(tb i).Nil
 lvs:(xl++Q1Z tb).Perm (S.P.usedOf 7)
 nds:(xn++Q2r tb).Perm (S.P.usedOf 6)
 xc:∀id,S.xc id=xcOf S.l tb id+if id=own then 256*(xl.length:Int)+48*(xn.length:Int) else 0
theorem TPI.x{S:CO}{tb:Nat->TB}(t:TPI S tb)(own:Int):TPX S tb own [] []:=⟨t.tin,t.nil,t.lvs,t.nds,fun id=>by rw[t.xc];simp⟩
theorem TPX.done{S:CO}{tb:Nat->TB}{own:Int}(t:TPX S tb own [] [])(hf:∀i,i<256->(tb i).Full):TPI S tb:=⟨t.tin,hf,t.nil,t.lvs,t.nds,fun id=>by rw[t.xc];simp⟩
theorem TPX.leaf{S:CO}{tb:Nat->TB}{own:Int}{xl xn:List Nat}(t:TPX S tb own xl xn){i k:Nat}(hi:i<256)(hk:k<16)(h:(tb i).lf k≠0):(tb i).lf k∈S.P.usedOf 7:=
 t.lvs.mem_iff.1 (J3V _ (J3G.2 ⟨i,J3x.2 hi,mem_lvs.2 ⟨k,hk,rfl,h⟩⟩))
theorem TPX.tin_kept{S:CO}{tb:Nat->TB}{own:Int}{xl xn:List Nat}(hl:S.l.length=256)(t:TPX S tb own xl xn){m:List Nat}(k1:∀(i:Nat) (p:Pl),S.l[i]?=some p->p.st=1->p.kind=2->Kept S.P.a.mem m p.at_ 128)(k2:∀a,a∈S.P.usedOf 7->Kept S.P.a.mem m a 256){i:Nat}{p:Pl}(hi:S.l[i]?=some p)(h1:p.st=1)(h2:p.kind=2):(tb i).In m p.at_:=
 (t.tin i p hi h1 h2).kept (k1 i p hi h1 h2) fun k hk Ac=>k2 _ (t.leaf (Q1C hl hi) hk Ac)
theorem Q1m{S:CO}{fr:List Nat}{N K:Nat}(ok:S.Ok fr N K){i:Nat}{p:Pl}(hi:S.l[i]?=some p)(h1:p.st=1)(h2:p.kind=2):p.at_∈S.P.usedOf 2:=by
 have:=ok.inv.mem.used (J5p hi) (Pl.is_iff.2 (.inl h1)) (by omega)
 rwa [h2] at this
theorem GotM.kept{P P':PL}{fr fr':List Nat}{own:Int}{k a:Nat}(g:GotM P fr own k a P' fr')(ok:P.Ok fr){j b:Nat}(hb:b∈P.usedOf j):Kept P.a.mem P'.a.mem b (Q0e j):=by
 have:=(g.apart ok).1 j b hb;rw[g.mem];exact Q1w (by rw[J3r];exact g.room.1) (by rw[J3r];omega)
theorem J0h:∀{l:List Int},(∀x∈l,0<=x)->0<=l.sum
 | [],_=>J7c _
 | x::r,h=>by
  have:=J0h (l:=r) fun y hy=>h y (by simp[hy])
  have:=h x (by simp);rw[J6M];omega
theorem Z5V(l:List Pl)(tb:Nat->TB)(id:Int):0<=xcOf l tb id:=by
 refine J0h fun x hx=>?_
 obtain⟨i,_,rfl⟩:=J3n.1 hx;unfold xcP;split
 ·split
  ·exact TB.cost_nn _
  ·exact J7c _
 ·exact J7c _
section
variable {S:CO} {fr:List Nat} {N K:Nat} {tb:Nat->TB} {own:Int} {xl xn:List Nat}
theorem TPX.got{n a:Nat}{P':PL}(ok:S.Ok fr N K)(t:TPX S tb own xl xn)(hn:n=6∨n=7)(g:GetOk S.P fr own n a P')(An:∃p∈S.l,p.st=1/\(p.fac:Int)=own) :
  (S.paid P' own ((Q0e n:Nat):Int)).Ok fr N K/\TPX (S.paid P' own ((Q0e n:Nat):Int)) tb own (if n=7 then a::xl else xl) (if n=6 then a::xn else xn):=by
 have gm:=g.gotM ok.inv.mem.pool;have Ec:costK n=Q0e n:=Q1d (by omega);obtain⟨e,q1,q2,q3⟩:=g.q;have UG:=(ok.inv.que.xc own).1;refine⟨ok.paid g.ok q1 q3 (fun j h1 h5=>g.other j (by omega)) (fun b hb=>?_) (by omega) (fun _=>An),?_,t.nil,?_,?_,fun id=>?_⟩
 ·have:=gm.kept ok.inv.mem.pool hb;exact(this.sub (b:=b) (k:=8) (J3h _) (by show b+8<=b+64;omega)).word
 ·intro i p hi h1 h2;refine t.tin_kept ok.inv.len (fun j q hj q1 q2=>?_) (fun b hb=>gm.kept ok.inv.mem.pool hb) hi h1 h2;exact gm.kept ok.inv.mem.pool (Q1m ok hj q1 q2)
 ·show(_++Q1Z tb).Perm (P'.usedOf 7);by_cases h7:n=7
  ·subst h7;rw[if_pos rfl];exact(List.Perm.cons a t.lvs).trans (gm.used (by omega)).symm
  ·rw[if_neg h7,g.other 7 (by omega)];exact t.lvs
 ·show(_++Q2r tb).Perm (P'.usedOf 6);by_cases h6:n=6
  ·subst h6;rw[if_pos rfl];exact(List.Perm.cons a t.nds).trans (gm.used (by omega)).symm
  ·rw[if_neg h6,g.other 6 (by omega)];exact t.nds
 ·show(if id=own then S.xc id+_ else S.xc id)=xcOf S.l tb id+_;by_cases hid:id=own
  ·subst hid;rw[if_pos rfl,t.xc,if_pos rfl,if_pos rfl];rcases hn with rfl|rfl
   ·simp[Q4H];omega
   ·simp[Q2C];omega
  ·rw[if_neg hid,t.xc,if_neg hid,if_neg hid]
theorem TPX.put{n a:Nat}{P':PL}(ok:S.Ok fr N K)(hn:n=6∨n=7)(t:TPX S tb own (if n=7 then a::xl else xl) (if n=6 then a::xn else xn))(g:PutOk S.P fr own n a P')(An:∃p∈S.l,p.st=1/\(p.fac:Int)=own) :
  (S.paid P' own (-((Q0e n:Nat):Int))).Ok fr N K/\TPX (S.paid P' own (-((Q0e n:Nat):Int))) tb own xl xn:=by
 have bm:=g.backM ok.inv.mem.pool;obtain⟨e,q1,q2,q3⟩:=g.q;have A2:P'.a.mem=S.P.a.mem:=by rw[g.aa]
 have JF:P'.q={S.P.q with E:=upd S.P.q.E own {e.q with charged:=e.q.charged + -((Q0e n:Nat):Int)}}:=by rw[q3,Int.sub_eq_add_neg]
 have UG:=Z5V S.l tb own;have QL:=t.xc own;rw[if_pos rfl] at QL;refine⟨ok.paid g.ok q1 JF (fun j h1 h5=>g.other j (by omega)) (fun b hb=>by rw[A2]) ?_ (fun _=>An),?_,t.nil,?_,?_,fun id=>?_⟩
 ·rcases hn with rfl|rfl
  ·simp[Q4H] at QL ⊢;omega
  ·simp[Q2C] at QL ⊢;omega
 ·intro i p hi h1 h2;show(tb i).In P'.a.mem p.at_;rw[A2];exact t.tin i p hi h1 h2
 ·show(xl++Q1Z tb).Perm (P'.usedOf 7);by_cases h7:n=7
  ·subst h7;have h1:=t.lvs;rw[if_pos rfl] at h1;exact J6N (h1.trans (bm.used (by omega)))
  ·have h1:=t.lvs;rw[if_neg h7] at h1;rw[g.other 7 (by omega)];exact h1
 ·show(xn++Q2r tb).Perm (P'.usedOf 6);by_cases h6:n=6
  ·subst h6;have h1:=t.nds;rw[if_pos rfl] at h1;exact J6N (h1.trans (bm.used (by omega)))
  ·have h1:=t.nds;rw[if_neg h6] at h1;rw[g.other 6 (by omega)];exact h1
 ·show(if id=own then S.xc id+_ else S.xc id)=xcOf S.l tb id+_;have hx:=t.xc id;by_cases hid:id=own
  ·subst hid;rw[if_pos rfl] at hx ⊢;rw[hx,if_pos rfl];rcases hn with rfl|rfl
   ·simp[Q4H];omega
   ·simp[Q2C];omega
  ·rw[if_neg hid] at hx ⊢;rw[hx,if_neg hid]
end
def updT(tb:Nat->TB)(i:Nat)(t:TB):Nat->TB:=fun j=>if j=i then t else tb j
theorem updT_same(tb:Nat->TB)(i:Nat)(t:TB):updT tb i t i=t:=by unfold updT;rw[if_pos rfl]
theorem Q0x{tb:Nat->TB}{i j:Nat}{t:TB}(h:j≠i):updT tb i t j=tb j:=by unfold updT;rw[if_neg h]
theorem Z1M(i:Nat)(hi:i<256):∃A B,List.range 256=A++i::B/\(∀j∈A,j≠i)/\∀j∈B,j≠i:=by
 have hm:i∈List.range 256:=J3x.2 hi;obtain⟨A,B,e⟩:=List.append_of_mem hm;have AP:(List.range 256).Nodup:=J6U;rw[e] at AP;obtain⟨h1,h2,h3⟩:=J3U.1 AP;exact⟨A,B,e,fun j hj=>h3 j hj i (by simp),fun j hj h=>(J3X.1 h2).1 (h ▸ hj)⟩
theorem Q4j(f:TB->List Nat)(tb:Nat->TB){i:Nat}(hi:i<256)(t:TB):∃A B,(List.range 256).flatMap (fun j=>f (tb j))=A++f (tb i)++B/\(List.range 256).flatMap (fun j=>f (updT tb i t j))=A++f t++B:=by
 obtain⟨A,B,e,h1,h2⟩:=Z1M i hi;refine⟨A.flatMap fun j=>f (tb j),B.flatMap fun j=>f (tb j),by rw[e];simp,?_⟩;have g1:A.flatMap (fun j=>f (updT tb i t j))=A.flatMap fun j=>f (tb j):=by
  rw[J7d,J7d];congr 1;exact J5k fun j hj=>by rw[Q0x (h1 j hj)]
 have g2:B.flatMap (fun j=>f (updT tb i t j))=B.flatMap fun j=>f (tb j):=by
  rw[J7d,J7d];congr 1;exact J5k fun j hj=>by rw[Q0x (h2 j hj)]
 rw[e,J3M,J3E,g1,g2,updT_same];simp
theorem Q9e{l:List Pl}{tb:Nat->TB}{i:Nat}(hi:i<256){p:Pl}(hp:l[i]?=some p)(t:TB)(id:Int):xcOf l (updT tb i t) id=xcOf l tb id+if (p.fac:Int)=id then t.cost-(tb i).cost else 0:=by
 obtain⟨A,B,e,h1,h2⟩:=Z1M i hi;unfold xcOf;rw[e];simp only[J6E,J3k,J6O,J6M];have g1:A.map (fun j=>xcP (updT tb i t) id j l[j]?)=A.map fun j=>xcP tb id j l[j]?:=J5k fun j hj=>by unfold xcP;rw[Q0x (h1 j hj)]
 have g2:B.map (fun j=>xcP (updT tb i t) id j l[j]?)=B.map fun j=>xcP tb id j l[j]?:=J5k fun j hj=>by unfold xcP;rw[Q0x (h2 j hj)]
 rw[g1,g2];have e1:∀tb',xcP tb' id i l[i]?=if (p.fac:Int)=id then(tb' i).cost else 0:=fun tb'=>by unfold xcP;rw[hp]
 rw[e1,e1,updT_same];split <;> omega
end Go.Proofs.YtfidemmgofcnmaaGreatDoor
namespace Go.Proofs.YtfidemmgofcnmaaGreatDoor
open Go.Proofs.Tryz
structure Fst3(kd:Int->List Int)(rk:Int->Nat):Prop where
 dn:∀h x,x∈kd h->rk x<rk h
 one:∀a b x,x∈kd a->x∈kd b->a=b
 nd:∀h,(kd h).Nodup
def preG(kd:Int->List Int):Nat->Int->List Int
 | 0,h=>[h]
 | n+1,h=>h::(kd h).reverse.flatMap (preG kd n)
section
variable {kd:Int->List Int} {rk:Int->Nat}
theorem Q5N{f g:Int->List Int}:∀{L:List Int},(∀x∈L,f x=g x)->L.flatMap f=L.flatMap g
 | [],_=>rfl
 | x::r,h=>by rw[J3E,J3E,h x (by simp),Q5N (L:=r) fun y hy=>h y (by simp[hy])]
theorem Fst3.leaf(t:Fst3 kd rk){h:Int}(hr:rk h=0):kd h=[]:=by
 cases hk:kd h with
 | nil=>rfl
 | cons x r =>
  have:=t.dn h x (by rw[hk];simp);omega
theorem Q5O(t:Fst3 kd rk):∀n m h,rk h<=n->rk h<=m->preG kd n h=preG kd m h:=by
 intro n
 induction n with
 | zero =>
  intro m h h1 h2;have hk:=t.leaf (Nat.le_zero.1 h1);cases m with
  | zero=>rfl
  | succ m=>simp[preG,hk]
 | succ n ih =>
  intro m h h1 h2;cases m with
  | zero =>
   have hk:=t.leaf (Nat.le_zero.1 h2);simp[preG,hk]
  | succ m =>
   simp only[preG];congr 1;refine Q5N fun x hx=>?_
   have:=t.dn h x (J3F.1 hx);exact ih m x (by omega) (by omega)
def preT(kd:Int->List Int)(rk:Int->Nat)(h:Int):List Int:=preG kd (rk h) h
theorem Z0w(t:Fst3 kd rk)(h:Int):preT kd rk h=h::(kd h).reverse.flatMap (preT kd rk):=by
 have:preT kd rk h=preG kd (rk h+1) h:=Q5O t _ _ h (J3h _) (by omega);rw[this];simp only[preG];congr 1;refine Q5N fun x hx=>?_
 have:=t.dn h x (J3F.1 hx);exact Q5O t _ _ x (by omega) (J3h _)
def Q0R(kd:Int->List Int)(rk:Int->Nat)(h:Int):List Int:=(preT kd rk h).tail.reverse
theorem Q3n(t:Fst3 kd rk)(h:Int):preT kd rk h=h::(Q0R kd rk h).reverse:=by
 unfold Q0R;rw[List.reverse_reverse,Z0w t h];rfl
inductive Dn (kd:Int->List Int):Int->Int->Prop where
 | here (h:Int):Dn kd h h
 | down (h k x:Int):k∈kd h->Dn kd k x->Dn kd h x
theorem Dn.trans{h k x:Int}(a:Dn kd h k)(b:Dn kd k x):Dn kd h x:=by
 induction a with
 | here=>exact b
 | down h k y hk _ ih=>exact .down h k x hk (ih b)
theorem Dn.rank(t:Fst3 kd rk){h x:Int}(a:Dn kd h x):rk x<=rk h/\(x=h∨rk x<rk h):=by
 induction a with
 | here=>exact⟨J3h _,.inl rfl⟩
 | down h k y hk _ ih =>
  have:=t.dn h k hk;have:=ih.1;exact⟨by omega,.inr (by omega)⟩
theorem Q5n(t:Fst3 kd rk):∀n h x,rk h<=n->(x∈preG kd n h↔Dn kd h x):=by
 intro n
 induction n with
 | zero =>
  intro h x hn;have hk:=t.leaf (Nat.le_zero.1 hn);simp only[preG,J5i]
  constructor
  ·rintro rfl;exact .here _
  ·intro d;cases d with
   | here=>rfl
   | down _ k _ hm _=>rw[hk] at hm;cases hm
 | succ n ih =>
  intro h x hn;simp only[preG,J3m,J3G,J3F]
  constructor
  ·rintro(rfl|⟨k,hk,hx⟩)
   ·exact .here _
   ·have:=t.dn h k hk;exact .down h k x hk ((ih k x (by omega)).1 hx)
  ·intro d;cases d with
   | here=>exact .inl rfl
   | down _ k _ hm hd =>
    have:=t.dn h k hm;exact .inr ⟨k,hm,(ih k x (by omega)).2 hd⟩
theorem Z1N(t:Fst3 kd rk){h x:Int}:x∈preT kd rk h↔Dn kd h x:=Q5n t _ h x (J3h _)
theorem Dn.line(t:Fst3 kd rk){a x:Int}(h:Dn kd a x):∀{b:Int},Dn kd b x->Dn kd a b∨Dn kd b a:=by
 -- the last step down to x
 have last:∀{a x:Int},Dn kd a x->x=a∨∃z,Dn kd a z/\x∈kd z:=by
  intro a x h
  induction h with
  | here=>exact .inl rfl
  | down h k y hk _ ih =>
   rcases ih with rfl|⟨z,h1,h2⟩
   ·exact .inr ⟨h,.here _,hk⟩
   ·exact .inr ⟨z,.down h k z hk h1,h2⟩
 have key:∀n a b x,rk a-rk x<=n->Dn kd a x->Dn kd b x->Dn kd a b∨Dn kd b a:=by
  intro n
  induction n with
  | zero =>
   intro a b x hn h k;rcases(h.rank t).2 with rfl|Aa
   ·exact .inr k
   ·omega
  | succ n ih =>
   intro a b x hn h k;rcases last h with rfl|⟨z,h1,h2⟩
   ·exact .inr k
   ·rcases last k with rfl|⟨z',k1,k2⟩
    ·exact .inl h
    ·have:z=z':=t.one z z' x h2 k2;subst this;have:=t.dn z x h2;have:=(h1.rank t).1;exact ih a b z (by omega) h1 k1
 intro b k;exact key _ a b x (J3h _) h k
theorem Dn.last{a x:Int}(h:Dn kd a x):x=a∨∃z,Dn kd a z/\x∈kd z:=by
 induction h with
 | here=>exact .inl rfl
 | down h k y hk _ ih =>
  rcases ih with rfl|⟨z,h1,h2⟩
  ·exact .inr ⟨h,.here _,hk⟩
  ·exact .inr ⟨z,.down h k z hk h1,h2⟩
theorem Q7i(t:Fst3 kd rk){h a b x:Int}(ha:a∈kd h)(hb:b∈kd h)(Ac:a≠b)(h1:Dn kd a x)(h2:Dn kd b x):False:=by
 have no:∀{a b:Int},a∈kd h->b∈kd h->a≠b->¬Dn kd a b:=by
  intro a b ha hb Ac d;rcases d.last with e|⟨z,d1,d2⟩
  ·exact Ac e.symm
  ·have:z=h:=t.one z h b d2 hb;subst this;have:=(d1.rank t).1;have:=t.dn z a ha;omega
 rcases h1.line t h2 with h|h
 ·exact no ha hb Ac h
 ·exact no hb ha Ac.symm h
theorem Z5W(t:Fst3 kd rk):∀n h,rk h<=n->(preG kd n h).Pairwise (fun a b=>a≠b/\¬Dn kd b a):=by
 intro n
 induction n with
 | zero=>intro h _;simp[preG]
 | succ n ih =>
  intro h hn;simp only[preG,J3H,J3I];refine⟨fun b hb=>?_,fun x hx=>?_,?_⟩
  ·obtain⟨k,hk,Al⟩:=J3G.1 hb;have hk:=J3F.1 hk;have h1:=t.dn h k hk;have hd:=(Q5n t n k b (by omega)).1 Al;have h2:=(hd.rank t).1;refine⟨fun e=>by subst e;omega,fun d=>?_⟩;have:=(d.rank t).1;omega
  ·have:=t.dn h x (J3F.1 hx);exact ih x (by omega)
  ·rw[J3J];refine(t.nd h).imp_of_mem ?_;intro x1 x2 m1 m2 Ac a ha b hb;have r1:=t.dn h x1 m1;have r2:=t.dn h x2 m2;have d1:=(Q5n t n x2 a (by omega)).1 ha;have d2:=(Q5n t n x1 b (by omega)).1 hb;refine⟨?_,fun d=>?_⟩
   ·rintro rfl;exact Q7i t m1 m2 Ac d2 d1
   ·exact Q7i t m1 m2 Ac (d2.trans d) d1
theorem Q5P(t:Fst3 kd rk)(h:Int):(preT kd rk h).Pairwise (fun a b=>a≠b/\¬Dn kd b a):=Z5W t _ h (J3h _)
theorem Q7j(t:Fst3 kd rk){h x:Int}:x∈Q0R kd rk h↔Dn kd h x/\x≠h:=by
 have e:=Q3n t h;have hp:=Q5P t h;rw[e] at hp;obtain⟨h1,_⟩:=J3H.1 hp;have hm:x∈preT kd rk h↔x=h∨x∈Q0R kd rk h:=by rw[e];simp
 rw[<- Z1N t,hm]
 constructor
 ·intro hx;exact⟨.inr hx,fun e=>(h1 x (by simpa using hx)).1 e.symm⟩
 ·rintro⟨h|h,Ac⟩
  ·exact absurd h Ac
  ·exact h
theorem Z3c(t:Fst3 kd rk)(h:Int):(Q0R kd rk h).Pairwise (fun a b=>a≠b/\¬Dn kd a b):=by
 have hp:=Q5P t h;rw[Q3n t h] at hp;have:=(J3H.1 hp).2;rw[J3J] at this;exact this.imp fun⟨h1,h2⟩=>⟨h1.symm,h2⟩
def Q9f(kd:Int->List Int)(rk:Int->Nat)(ws:List Int):List Int:=ws.reverse.flatMap (preT kd rk)
theorem Z3d(t:Fst3 kd rk)(ws:List Int)(x:Int):Q9f kd rk (ws++[x])=x::Q9f kd rk (ws++kd x):=by
 unfold Q9f;rw[List.reverse_append,List.reverse_append,List.reverse_singleton,J3M,J3M,List.flatMap_singleton,Z0w t x];rfl
theorem Z5X(kd:Int->List Int)(rk:Int->Nat)(t:Fst3 kd rk)(ws:List Int):ws.length<=(Q9f kd rk ws).length:=by
 unfold Q9f;have:∀w:List Int,w.length<=(w.flatMap (preT kd rk)).length:=by
  intro w
  induction w with
  | nil=>simp
  | cons x r ih =>
   rw[J3E,J3N,J3O];have:0<(preT kd rk x).length:=by rw[Z0w t x];simp
   omega
 simpa using this ws.reverse
end
open Go.RowKit
abbrev SKV:=List ((Int×Int)×Value)
def Q2i(p:Int×Int):Value:=.agg #[.int .i64 p.1,.int .i64 p.2]
def Q3B(kv:SKV)(p:Int×Int):Option Value:=(kv.find? fun q=>decide (q.1=p)).map Prod.snd
def delS(kv:SKV)(p:Int×Int):SKV:=kv.filter fun q=>decide (q.1≠p)
def Q2X(w:World)(m:Nat)(kv:SKV):Prop:=MapIs w m (kv.map fun q=>(Q2i q.1,q.2))
def Q1D(P:Program)(K:TypeId)(p:Int×Int):Prop:=∃l,keyOf P K (Q2i p)=some l
theorem Z5Y{p q:Int×Int}(h:Q2i p=Q2i q):p=q:=by
 unfold Q2i at h;simp at h;exact Prod.ext h.1 h.2
theorem Z5Z:∀{kv:SKV} {p:Int×Int} {v:Value} {j:Nat},kv.Pairwise (fun a b=>a.1≠b.1)->kv[j]?=some (p,v)->Q3B kv p=some v/\kv.eraseIdx j=delS kv p
 | [],_,_,_,_,h=>by simp at h
 | q::r,p,v,0,hn,h=>by
  simp at h;subst h;obtain⟨h1,_⟩:=J3H.1 hn;refine⟨by simp[Q3B],?_⟩;unfold delS;rw[J5o (by simp)]
  symm
  rw[List.eraseIdx_zero,List.tail_cons,J7e];intro a ha;have:=h1 a ha;simp;exact fun e=>this e.symm
 | q::r,p,v,j+1,hn,h=>by
  rw[J6o] at h;obtain⟨h1,h2⟩:=J3H.1 hn;obtain⟨i1,i2⟩:=Z5Z h2 h;have Ac:q.1≠p:=h1 _ (J5p h);refine⟨?_,?_⟩
  ·unfold Q3B at i1 ⊢;rw[List.find?_cons_of_neg (by simpa using Ac)];exact i1
  ·unfold delS at i2 ⊢;rw[J5n (by simpa using Ac),J7f,i2]
theorem map_erase{α β:Type}(f:α->β):∀(l:List α) (j:Nat),(l.eraseIdx j).map f=(l.map f).eraseIdx j
 | [],_=>by simp
 | _::_,0=>rfl
 | x::r,j+1=>by rw[J7f,J3k,J3k,J7f,map_erase f r j]
theorem Q9g{kv:SKV}{p:Int×Int}(h:∀q∈kv,q.1≠p):Q3B kv p=none/\delS kv p=kv:=by
 refine⟨?_,?_⟩
 ·unfold Q3B;rw[J4U.2 (fun q hq=>by simpa using h q hq)];rfl
 ·unfold delS;rw[J7e];intro q hq
  simpa using h q hq
section
variable {P:Program} {K V:TypeId} {T:TypeId}
theorem Q5Q(law:WideMaps.KeyLaw P K)(w:World){es:List MapEntry}{kv:SKV}(hr:es.map (fun e=>(e.key,e.val))=kv.map fun q=>(Q2i q.1,q.2))(hn:kv.Pairwise (fun a b=>a.1≠b.1))(hk:∀q∈kv,Q1D P K q.1){p:Int×Int}(hp:Q1D P K p) :
  ((Instr.findKey K (Q2i p) es).run P w=.ok none w/\Q3B kv p=none/\delS kv p=kv/\∀e∈es,e.key≠Q2i p) ∨
  ∃j v,(Instr.findKey K (Q2i p) es).run P w=.ok (some (j,v)) w/\Q3B kv p=some v/\j<es.length/\(es.eraseIdx j).map (fun e=>(e.key,e.val))=(delS kv p).map fun q=>(Q2i q.1,q.2):=by
 obtain⟨l,hl⟩:=hp;have A9:∀e∈es,∃l,keyOf P K e.key=some l:=fun e he=>by
  have hm:(e.key,e.val)∈kv.map fun q=>(Q2i q.1,q.2):=by rw[<- hr];exact J3n.2 ⟨e,he,rfl⟩
  obtain⟨q,hq,e1⟩:=J3n.1 hm;have:Q2i q.1=e.key:=((Prod.mk.injEq _ _ _ _).mp e1).1;rw[<- this];exact hk q hq
 rcases law.find w hl es A9 with ⟨h1,h2⟩|⟨j,e,h1,h2,h3⟩
 ·left;have Aw:∀q∈kv,q.1≠p:=fun q hq e=>by
   have hm:(Q2i q.1,q.2)∈es.map fun e=>(e.key,e.val):=by rw[hr];exact J3n.2 ⟨q,hq,rfl⟩
   obtain⟨x,hx,e1⟩:=J3n.1 hm;exact h2 x hx (by rw[((Prod.mk.injEq _ _ _ _).mp e1).1,e])
  exact⟨h1,(Q9g Aw).1,(Q9g Aw).2,h2⟩
 ·right;have hj:j<es.length:=(J3y.1 h2).1;have Pd:(kv.map fun q=>(Q2i q.1,q.2))[j]?=some (e.key,e.val):=by rw[<- hr,J4M,h2];rfl
  rw[J4M] at Pd;obtain⟨q,hq,e1⟩:=J6V.1 Pd;obtain⟨e2,e3⟩:=(Prod.mk.injEq _ _ _ _).mp e1;have Ob:q.1=p:=Z5Y (e2.trans h3);have IT:kv[j]?=some (p,e.val):=by rw[hq,<- Ob,<- e3]
  obtain⟨f1,f2⟩:=Z5Z hn IT;refine⟨j,e.val,h1,f1,hj,?_⟩;rw[<- f2,map_erase,map_erase,hr]
theorem Q5R{w:World}{m:Nat}{kv:SKV}(h:Q2X w m kv)(law:WideMaps.KeyLaw P K)(hn:kv.Pairwise (fun a b=>a.1≠b.1))(hk:∀q∈kv,Q1D P K q.1){p:Int×Int}(hp:Q1D P K p)(ok:Bool)(z:Value)(hT:P.underlying T=some (.map K V))(hz:(zeroValue V).run P w=.ok z w) :
  (Instr.lookup T (.map (some m)) (Q2i p) ok).run P w=.ok (if ok then .tuple #[(Q3B kv p).getD z,.bool (Q3B kv p).isSome] else(Q3B kv p).getD z) w:=by
 obtain⟨es,Ah,hb,hs,hr⟩:=h;have hc:=fun em=>law.check w em hp.choose_spec
 unfold Instr.lookup;rcases Q5Q law w hr hn hk hp with ⟨hf,hl,_,_⟩|⟨j,v,hf,hl,_,_⟩
 ·cases ok <;> simp[run_underlying hT,Result.andThen,Go.MapKept.run_getObj_map hb,hc,hf,hl,hz]
 ·cases ok <;> simp[run_underlying hT,Result.andThen,Go.MapKept.run_getObj_map hb,hc,hf,hl]
theorem Q4k{w:World}{m:Nat}{kv:SKV}(h:Q2X w m kv)(law:WideMaps.KeyLaw P K)(hn:kv.Pairwise (fun a b=>a.1≠b.1))(hk:∀q∈kv,Q1D P K q.1){p:Int×Int}(hp:Q1D P K p)(u:Value)(Aw:Q3B kv p=none)(hT:P.underlying T=some (.map K V)) :
  ∃w',(Instr.mapUpdate T (.map (some m)) (Q2i p) u).run P w=.ok () w'/\Q2X w' m (kv++[(p,u)])/\w.grownBy w' (some m):=by
 obtain⟨es,Ah,hb,hs,hr⟩:=h;have hc:=fun em=>law.check w em hp.choose_spec
 have Ca:∀o,w.grownBy {w with heap:=w.heap.setIfInBounds m o} (some m):=fun o=>⟨rfl,rfl,rfl,by simp,fun k _ Ac=>by
  have:m≠k:=fun e=>Ac (by rw[e])
  simp[this]⟩
 have Aa:=lt_of_block hb;unfold Instr.mapUpdate;rcases Q5Q law w hr hn hk hp with ⟨hf,hl,_,Ac⟩|⟨j,v,hf,hl,_,_⟩
 ·refine⟨{w with heap:=w.heap.setIfInBounds m (.map (es.push {key:=Q2i p,val:=u,born:=Ah}) (Ah+1))},?_,?_,Ca _⟩
  ·simp[run_underlying hT,Result.andThen,Go.MapKept.run_getObj_map hb,hc,hf,Go.MapKept.run_setObj_map _ hb]
  ·refine⟨es.push {key:=Q2i p,val:=u,born:=Ah},Ah+1,by simp[Aa],Go.MapKept.stamped_push hs (fun x hx=>Ac x (by simpa using hx)),?_⟩;simp[hr]
 ·rw[Aw] at hl;cases hl
theorem Q5S{w:World}{m:Nat}{kv:SKV}(h:Q2X w m kv)(law:WideMaps.KeyLaw P K)(hn:kv.Pairwise (fun a b=>a.1≠b.1))(hk:∀q∈kv,Q1D P K q.1){p:Int×Int}(hp:Q1D P K p)(t1 t2:TypeId)(hT:P.underlying T=some (.map K V)) :
  ∃w',(Builtin.delete_ #[T,t1] t2 #[.map (some m),Q2i p]).run P w=.ok (.tuple #[]) w'/\Q2X w' m (delS kv p)/\w.grownBy w' (some m):=by
 obtain⟨es,Ah,hb,hs,hr⟩:=h;have hc:=fun em=>law.check w em hp.choose_spec
 have Ca:∀o,w.grownBy {w with heap:=w.heap.setIfInBounds m o} (some m):=fun o=>⟨rfl,rfl,rfl,by simp,fun k _ Ac=>by
  have:m≠k:=fun e=>Ac (by rw[e])
  simp[this]⟩
 have Aa:=lt_of_block hb;unfold Builtin.delete_;rcases Q5Q law w hr hn hk hp with ⟨hf,hl,hd,Ac⟩|⟨j,v,hf,hl,hj,hd⟩
 ·refine⟨{w with heap:=w.heap.setIfInBounds m (.map es Ah)},?_,?_,Ca _⟩
  ·simp[run_underlying hT,Result.andThen,Go.MapKept.run_getObj_map hb,hc,hf,Go.MapKept.run_setObj_map _ hb]
  ·refine⟨_,_,by simp[Aa],hs,?_⟩;rw[hd];exact hr
 ·refine⟨{w with heap:=w.heap.setIfInBounds m (.map (es.eraseIdxIfInBounds j) Ah)},?_,?_,Ca _⟩
  ·simp[run_underlying hT,Result.andThen,Go.MapKept.run_getObj_map hb,hc,hf,Go.MapKept.run_setObj_map _ hb]
  ·refine⟨es.eraseIdxIfInBounds j,Ah,by simp[Aa],Go.MapKept.stamped_erase hs _,?_⟩;rw[<- hd];have:j<es.size:=by simpa using hj
   simp[Array.eraseIdxIfInBounds,this]
end
end Go.Proofs.YtfidemmgofcnmaaGreatDoor
