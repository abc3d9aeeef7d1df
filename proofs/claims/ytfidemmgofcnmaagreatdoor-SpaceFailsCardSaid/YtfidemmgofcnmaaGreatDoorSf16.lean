/- SpaceFails returns true at every input. No condition. Part of its proof. -/
import Derived.Test.YtfidemmgofcnmaaGreatDoorSf15
set_option maxHeartbeats 4000000
set_option maxRecDepth 100000
set_option linter.unusedVariables false
namespace Go.Proofs.YtfidemmgofcnmaaGreatDoor
open Go.RowKit Go.Proofs.Tryz
structure TurnP(S:CO)(fr:List Nat)(N K:Nat)(tb:Nat->TB)(own:Int)(i s:Nat)(o:Option Ent)(S':CO)(t':TB):Prop where
 ok:S'.Ok fr N K
 tpi:TPI S' (updT tb i t')
 en:∀x,t'.en x=if x=s then o else(tb i).en x
 lf:∀k,(tb i).lf k=0∨t'.lf k=0∨t'.lf k=(tb i).lf k
 alt:Alt S S' own
def J2h(S:CO)(fr:List Nat)(N K:Nat)(tb:Nat->TB)(own:Int)(i s:Nat)(o:Option Ent)(w w':World):Prop:=∃S' t',TurnP S fr N K tb own i s o S' t'/\Step S.hl S'.hl w w'
theorem Q6A{l:List Pl}{tb:Nat->TB}(N N':List (En Nd)){h s:Nat}{p:Pl}(hp:pget l 1 h=some p)(hk:p.kind=2)(hs:s<256){t':TB}{o:Option Ent}(ht:∀x,t'.en x=if x=s then o else(tb (h%256)).en x) :
  avOf l (updT tb (h%256) t') N'=⟨setA (avOf l tb N).en h s (o.map Ent.c),N'⟩:=by
 unfold avOf setA;congr 1;funext h' s';rw[Q3N hp hk hs ht];split <;> rfl
theorem Q9y{l:List Pl}{tb:Nat->TB}{N:List (En Nd)}{h s:Nat}{e:Ent}(he:Q0f l tb h s=some e):(avOf l tb N).en h s=some (e.h,e.r):=by
 unfold avOf;simp only[he];rfl
theorem av_none{l:List Pl}{tb:Nat->TB}{N:List (En Nd)}{h s:Nat}:(avOf l tb N).en h s=none↔Q0f l tb h s=none:=by
 unfold avOf;simp
theorem Q3v{l:List Pl}{tb:Nat->TB}{N:List (En Nd)}{h s:Nat}{x:Nat×Nat}(hx:(avOf l tb N).en h s=some x):∃e,Q0f l tb h s=some e/\x=(e.h,e.r):=by
 unfold avOf at hx;simp only at hx;cases he:Q0f l tb h s with
 | none=>rw[he] at hx;cases hx
 | some e=>rw[he] at hx;cases hx;exact⟨e,rfl,rfl⟩
theorem Q2L{m:Nat}{a:AV}{id:Int}{n:En Nd}(hf:find a.N id=some n){h s:Nat}(h1:n.q.sp=(h:Int))(h2:n.q.sl=(s:Int)){x:Nat×Nat}(hx:a.en h s=some x) :
  weak1 m a id=if less x.2 m=0 then(⟨setA a.en h s none,Q0B a.N n n.q.ks.length⟩,true) else(⟨setA a.en h s (some (x.1,less x.2 m)),a.N⟩,false):=by
 unfold weak1;rw[hf];simp only[h1,h2,J4h,hx]
section
variable {Z:SP} {fr:List Nat} {N K:Nat} {M:Int}
theorem SP.Ok.weakened(ok:Z.Ok fr N K M){id:Int}{n:En Nd}(hf:find Z.F.N id=some n){h s:Nat}{p:Pl}{e:Ent}(h1:n.q.sp=(h:Int))(h2:n.q.sl=(s:Int))(hp:pget Z.S.l 1 h=some p)(hk:p.kind=2)(hs:s<256)(he:Q0f Z.S.l Z.tb h s=some e){m:Nat}(hm:m<16)(h0:less e.r m≠0)
  (hd:Q3O m Z.av [] id) {S':CO} {t':TB} (T:TurnP Z.S fr N K Z.tb (p.fac:Int) (h%256) s (some ⟨e.h,less e.r m,e.nd⟩) S' t') :
  (Z.setS S' (updT Z.tb (h%256) t')).Ok fr N K M/\weak1 m Z.av id=((Z.setS S' (updT Z.tb (h%256) t')).av,false)/\SameZ Z (Z.setS S' (updT Z.tb (h%256) t')):=by
 have hr:=(ok.fpi.cap h s e he).r;obtain⟨a1,a2,a3⟩:=Q5J e.r (by omega) m hm;have hl:=T.alt.l;have Es:=Q6A Z.F.N Z.F.N hp hk hs T.en;refine⟨⟨T.ok,T.tpi,?_,ok.fo,ok.next⟩,?_,⟨⟨rfl,T.alt.alt0,rfl⟩,rfl⟩⟩
 ·show FPI S'.l _ Z.F.N;rw[hl];refine ok.fpi.weak ok.fo.n hp hk hs he T.en rfl ⟨by show 1<=less e.r m;omega,by show less e.r m<=15;omega⟩ a2 fun c hc d Gb e1 e2 x hx=>?_
  -- d is the node itself
  obtain⟨d1,d2⟩:=Q0b Gb;obtain⟨n1,n2⟩:=Q0b hf;have Uy:d=n:=Q4i ok.fo.n d1 n1 (by rw[e1,h1]) (by rw[e2,h2]);subst Uy;obtain⟨q1,q2⟩:=ok.fo.n.par c hc;have Bo:c.q.par=d.id:=d2.symm;obtain⟨pp,p1,p2⟩:=q2 (by have:=ok.fo.n.rng d n1;omega);rw[Gb] at p1;cases p1;have Ub:=ok.fpi.up c hc d Gb x e hx (by
   unfold Q0O;rw[h1,h2,J4h,J4h];exact he)
  have VO:1<=x.r/\x.r<=15:=by
   obtain⟨ch,cs,cp,ce,c1,c2,c3,c4,c5,c6,c7,c8⟩:=ok.fpi.task ok.fo.n hc;unfold Q0O at hx;rw[c1,c2,J4h,J4h,c8] at hx;cases hx;exact(ok.fpi.cap _ _ _ c8).r
  rcases hd d hf c.id p2 with hz|hz
  ·cases hz
  ·have F7:=hz c (Q0k ok.fo.n.ids hc) (x.h,x.r) (Q9y hx);exact Z8L x.r (by omega) e.r (by omega) m hm Ub.2 F7
 ·rw[Q2L (a:=Z.av) hf h1 h2 (Q9y he)];simp only;rw[if_neg h0];congr 1;show _=avOf S'.l (updT Z.tb (h%256) t') Z.F.N;rw[hl,Es];rfl
theorem SP.Ok.lifted(ok:Z.Ok fr N K M){id:Int}{n:En Nd}(hf:find Z.F.N id=some n){h s:Nat}{p:Pl}{e:Ent}(h1:n.q.sp=(h:Int))(h2:n.q.sl=(s:Int))(hp:pget Z.S.l 1 h=some p)(hk:p.kind=2)(hs:s<256)(he:Q0f Z.S.l Z.tb h s=some e){m:Nat}(h0:less e.r m=0)
  {S':CO} {t':TB} (T:TurnP Z.S fr N K Z.tb (p.fac:Int) (h%256) s none S' t') {F':FO} (hF:F'.N=Q0B Z.F.N n n.q.ks.length) (Ea:F'.Ok) (I1:F'.next=Z.F.next) (FZ:F'.f=Z.F.f) :
  ((Z.setF F').setS S' (updT Z.tb (h%256) t')).Ok fr N K M/\weak1 m Z.av id=(((Z.setF F').setS S' (updT Z.tb (h%256) t')).av,true)/\SameZ Z ((Z.setF F').setS S' (updT Z.tb (h%256) t')):=by
 have hl:=T.alt.l;have Es:=Q6A Z.F.N F'.N hp hk hs T.en;obtain⟨n1,n2⟩:=Q0b hf;refine⟨⟨T.ok,T.tpi,?_,Ea,by show F'.next<=M;rw[I1];exact ok.next⟩,?_,⟨⟨rfl,T.alt.alt0,FZ⟩,I1⟩⟩
 ·show FPI S'.l _ F'.N;rw[hl,hF];exact ok.fpi.lift ok.fo.n hp hk hs T.en (by rw[n2];exact hf) h1 h2
 ·rw[Q2L (a:=Z.av) hf h1 h2 (Q9y he)];simp only;rw[if_pos h0];congr 1;show _=avOf S'.l (updT Z.tb (h%256) t') F'.N;rw[hl,Es,hF];rfl
theorem SP.Ok.added(ok:Z.Ok fr N K M){h s:Nat}{p:Pl}(hp:pget Z.S.l 1 h=some p)(hk:p.kind=2)(hs:s<256)(h0:Q0f Z.S.l Z.tb h s=none){e:Ent}(hc:Q7a Z.S.l s e)
  {S':CO} {t':TB} (T:TurnP Z.S fr N K Z.tb (p.fac:Int) (h%256) s (some e) S' t') {par:Int} (Bo:par=0∨∃m em,find Z.F.N par=some m/\Q0O Z.S.l Z.tb m=some em/\e.h=em.h/\e.r&&&em.r=e.r) {F':FO} (A:Z2l Z.F par (h:Int) (s:Int) F') :
  ((Z.setF F').setS S' (updT Z.tb (h%256) t')).Ok fr N K (M+1)/\SameN Z ((Z.setF F').setS S' (updT Z.tb (h%256) t'))/\((Z.setF F').setS S' (updT Z.tb (h%256) t')).av.en=setA Z.av.en h s (some (e.h,e.r))/\∃b,((Z.setF F').setS S' (updT Z.tb (h%256) t')).av.N=addN Z.F.N par (Z.F.next+1) b (h:Int) (s:Int):=by
 have hl:=T.alt.l;obtain⟨b,hN⟩:=A.N;have Es:=Q6A Z.F.N F'.N hp hk hs T.en;have GS:((Z.setF F').setS S' (updT Z.tb (h%256) t')).av=⟨setA Z.av.en h s ((some e).map Ent.c),F'.N⟩:=by
  show avOf S'.l (updT Z.tb (h%256) t') F'.N=_;rw[hl,Es];rfl
 refine⟨⟨T.ok,T.tpi,?_,A.ok,by show F'.next<=M+1;rw[A.next];have:=ok.next;omega⟩,⟨rfl,T.alt.alt0,A.f⟩,by rw[GS];rfl,b,by rw[GS];exact hN⟩;show FPI S'.l _ F'.N;rw[hl,hN];exact ok.fpi.add ok.fo.n hp hk hs h0 T.en hc b Bo
end
theorem Q2Z(w:World)(z:Int):Calls prog 92 #[.int .i64 z] w fun r w'=>r=.returned (.bool (decide (0<=z/\z<256)))/\w=w':=by
 by_cases h0:0<=z
 ·by_cases h1:z<256
  ·rw[decide_eq_true (show 0<=z/\z<256 from⟨h0,h1⟩)];go_enter func92,ntmps92
   go_wp2
   go_ret;exact⟨rfl,rfl⟩
  ·rw[decide_eq_false (show ¬(0<=z/\z<256) from fun h=>h1 h.2)];have hd:decide (z<256)=false:=by simpa using h1
   go_enter func92,ntmps92
   go_wp2
   go_ret;exact⟨rfl,rfl⟩
 ·rw[decide_eq_false (show ¬(0<=z/\z<256) from fun h=>h0 h.1)];have hd:decide (0<=z)=false:=by simpa using h0
  go_enter func92,ntmps92
  go_wp2
  go_ret;exact⟨rfl,rfl⟩
theorem Q3S(w:World)(z:Int):Calls prog 106 #[.int .i64 z] w fun r w'=>r=.returned (.bool (decide (0<z/\z<=15)))/\w=w':=by
 by_cases h0:0<z
 ·by_cases h1:z<=15
  ·rw[decide_eq_true (show 0<z/\z<=15 from⟨h0,h1⟩)];go_enter func106,ntmps106
   go_wp2
   go_ret;exact⟨rfl,rfl⟩
  ·rw[decide_eq_false (show ¬(0<z/\z<=15) from fun h=>h1 h.2)];have hd:decide (z<=15)=false:=by simpa using h1
   go_enter func106,ntmps106
   go_wp2
   go_ret;exact⟨rfl,rfl⟩
 ·rw[decide_eq_false (show ¬(0<z/\z<=15) from fun h=>h0 h.1)];have hd:decide (0<z)=false:=by simpa using h0
  go_enter func106,ntmps106
  go_wp2
  go_ret;exact⟨rfl,rfl⟩
theorem Q2M(w:World)(z:Int):Calls prog 96 #[.int .i64 z] w fun r w'=>r=.returned (.bool (decide (z<128)))/\w=w':=by
 go_enter func96,ntmps96
 go_wp2
 go_ret;exact⟨rfl,rfl⟩
theorem Z9d(h r:Nat)(hh:h<4294967295)(hr:r<16):bits .or .u64 ((h:Int)+1) ((r:Int)*4294967296)=(((⟨h,r,0⟩:Ent).a:Nat):Int):=by
 have e1:((h:Int)+1)=((h+1:Nat):Int):=by omega
 have e2:((r:Int)*4294967296)=((r*4294967296:Nat):Int):=by omega
 rw[e1,e2,u64_or_nat _ _ (by omega) (by omega)];unfold Ent.a;have:(h+1)|||(r*4294967296)=h+1+4294967296*r:=by
  rw[Nat.or_comm,nat_join 32 (r*4294967296) (h+1) (by omega) (by omega)];omega
 rw[this]
theorem J1j(h r:Nat)(hh:h<4294967295)(hr:r<16):bits .and .u64 ((((⟨h,r,0⟩:Ent).a:Nat):Int)) 4294967295=((h+1:Nat):Int):=by
 unfold Ent.a;have:=u64_and_nat (h+1+4294967296*r) 4294967295 (by omega) (by omega);rw[show((4294967295:Nat):Int)=4294967295 from rfl] at this;rw[show(⟨h,r,0⟩:Ent).h=h from rfl,show(⟨h,r,0⟩:Ent).r=r from rfl,this,J4H _ 32];omega
theorem Z9e(h r:Nat)(hh:h<4294967295):(((⟨h,r,0⟩:Ent).a:Nat):Int)/4294967296=(r:Int):=by
 unfold Ent.a;show((h+1+4294967296*r:Nat):Int)/4294967296=(r:Int);omega
theorem J2Q(e:Ent):e.a=(⟨e.h,e.r,0⟩:Ent).a:=rfl
def capV:Option Ent->Value
 | none=>.tuple #[.agg #[.int .u32 0,.int .i64 0],.bool false]
 | some e=>.tuple #[.agg #[.int .u32 (e.h:Int),.int .i64 (e.r:Int)],.bool true]
def Ent.Low(e:Ent):Prop:=e.h<4294967295/\e.r<16
theorem Q1m{w:World}{S:CO}{t:TB}{p:Pl}{g:Nat}(T:TT S t p g w)(x f z:Int)(J7:∀e,t.at' z=some e->e.Low) :
  Calls prog 93 #[.agg #[.pointer (some ⟨g,0,none⟩),.int .u32 x,.int .i64 f],.int .i64 z] w (Told w (capV (t.at' z))):=by
 have Ai:Below w.heap.size w ((w.alloc (.cells #[.pointer (some ⟨g,0,none⟩),.int .u32 x,.int .i64 f] 191)).alloc (.cells #[.int .u32 0,.int .i64 0] 72)):=((Below.refl _ _).alloc (J3b _) _).alloc (by simp) _;have kg:=Q3R (T.grown Ai) z;have hA:=(Cells.new w 191 [.pointer (some ⟨g,0,none⟩),.int .u32 x,.int .i64 f]).alloc (.cells #[.int .u32 0,.int .i64 0] 72);have a0:=hA.cell 0 _ rfl;have HE:Hid (∀o,Below w.heap.size w ((w.alloc (.cells #[.pointer (some ⟨g,0,none⟩),.int .u32 x,.int .i64 f] 191)).alloc o)):=fun o=>((Below.refl _ _).alloc (J3b _) _).alloc (by simp) o
 cases ho:t.at' z with
 | none =>
  rw[ho] at kg;unfold getV Q0s Q0W at kg;simp only[capV];clear T J7 ho hA Ai;go_enter func93,ntmps93;go_wp2_with fail;refine kg.mono ?_;rintro r w1⟨rfl,rfl⟩;go_wp2_with fail;refine bodyPost_ret (v:=.tuple #[.agg #[.int .u32 0,.int .i64 0],.bool false]) (by simp[results,results93,go_sem]) rfl ⟨rfl,HE.out _⟩
 | some e =>
  obtain⟨l1,l2⟩:=J7 e ho;rw[ho] at kg;simp only[getV,Q0s] at kg;simp only[capV];have h1:=J1j e.h e.r l1 l2;have h2:=Z9e e.h e.r l1;have Aa:((e.a:Nat):Int)≠0:=by unfold Ent.a;omega
  have FV:(((e.a:Nat):Int)==0)=false:=by simpa using Aa
  rw[<- J2Q] at h1 h2;have Dl:(bits .and .u64 ((e.a:Nat):Int) 4294967295-1)%4294967296=(e.h:Int):=by rw[h1];omega
  have D3:((e.a:Nat):Int)/4294967296=(e.r:Int):=h2;have Ud:=Q0a Dl;have UF:=Q0a D3;clear Dl D3 h1 h2;have Ab:e.a<18446744073709551616:=by unfold Ent.a;omega
  generalize Q0W (some e)=cb at *
  generalize e.a=ca at *
  generalize e.h=eh at *
  generalize e.r=er at *
  have Vh:(0:Int)<=(ca:Int):=by omega
  clear T J7 ho hA Ai Aa;go_enter func93,ntmps93;go_wp2_with fail;refine kg.mono ?_;rintro r w1⟨rfl,rfl⟩;go_wp2_with fail;refine bodyPost_ret (v:=.tuple #[.agg #[.int .u32 eh,.int .i64 er],.bool true]) (by simp[results,results93,go_sem,Ud.out,UF.out]) rfl ⟨rfl,HE.out _⟩
def TblZ(Z:SP)(p:Pl)(g:Nat)(w:World):Prop:=AsideV Z.hl [ptr Z.S.P.p,.int .i64 (p.fac:Int),.int .i64 (p.at_:Int)] (some ⟨g,0,none⟩) w
theorem SP.keyS{Z:SP}{b:Nat}(h:b∈keys Z.S.hl):b∈keys Z.hl:=(Z.permS.map Prod.fst).mem_iff.2 (by rw[J6G];exact J3X _ h)
theorem TblZ.c{Z:SP}{p:Pl}{g:Nat}{w:World}(h:TblZ Z p g w):TblC Z.S p g w:=fun j v hj=>by
 obtain⟨g',e,hk,hl,hc⟩:=h j v hj;exact⟨g',e,fun x=>hk (SP.keyS x),hl,hc⟩
theorem TblZ.step{Z Z':SP}{p:Pl}{g:Nat}{w w':World}(h:TblZ Z p g w)(st:Step Z.hl Z'.hl w w')(hp:Z'.S.P.p=Z.S.P.p):TblZ Z' p g w':=by
 unfold TblZ;rw[hp];exact AsideV.step h st
theorem TblZ.grown{Z:SP}{p:Pl}{g:Nat}{w w':World}(h:TblZ Z p g w)(hs:Sep w Z.hl)(hb:Below w.heap.size w w'):TblZ Z p g w':=h.step (hs.grown hb) rfl
theorem Q9z{w:World}{Z:SP}{fr:List Nat}{N K:Nat}(h:Sep w Z.hl)(ok:Z.S.Ok fr N K){x:Nat}(hx:x<4294967296){p:Pl}(hp:pget Z.S.l 1 x=some p)(hk:p.kind=2) :
  Calls prog 90 #[.pointer (some ⟨Z.s,0,none⟩),.int .u32 x] w fun r w'=>∃g:Nat,r=.returned (.tuple #[.agg #[.pointer (some ⟨g,0,none⟩),.int .u32 x,.int .i64 (p.fac:Int)],.int .i64 0])/\Below w.heap.size w w'/\TblZ Z p g w'/\w.heap.size<=g:=by
 have b1:Below w.heap.size w (w.alloc (.cells #[.pointer none,.int .u32 0,.int .i64 0] 191)):=(Below.refl _ _).alloc (J3b _) _;have s1:=(h.grown b1).sep;have c0:=SP.c0 s1;have hO:Calls prog 49 #[.pointer (some ⟨Z.S.c,0,none⟩),.int .u32 x,.int .i64 2] (w.alloc (.cells #[.pointer none,.int .u32 0,.int .i64 0] 191)) (Told (w.alloc (.cells #[.pointer none,.int .u32 0,.int .i64 0] 191)) (.tuple #[.agg #[.int .i64 (p.kind:Int),.int .i64 (p.at_:Int),.int .i64 (p.fac:Int)],.int .i64 0])):=Q2X (SP.sS s1) ok.inv.lok hx 2 hp (.inr (by omega));have hu:p.at_∈Z.S.P.usedOf 2:=Q1P ok (pget_some.1 hp).1 (pget_some.1 hp).2.2 hk
 have HC:Hid (∀w1,Below (w.alloc (.cells #[.pointer none,.int .u32 0,.int .i64 0] 191)).heap.size (w.alloc (.cells #[.pointer none,.int .u32 0,.int .i64 0] 191)) w1 ->
   ((w1.alloc (.cells #[.int .i64 (p.kind:Int),.int .i64 (p.at_:Int),.int .i64 (p.fac:Int)] 54)).cell? ⟨Z.s,0,none⟩=some (.pointer (some ⟨Z.S.c,0,none⟩))/\(w1.alloc (.cells #[.int .i64 (p.kind:Int),.int .i64 (p.at_:Int),.int .i64 (p.fac:Int)] 54)).cell? ⟨w1.heap.size,1,none⟩=some (.int .i64 (p.at_:Int))/\(w1.alloc (.cells #[.int .i64 (p.kind:Int),.int .i64 (p.at_:Int),.int .i64 (p.fac:Int)] 54)).cell? ⟨w1.heap.size,2,none⟩=some (.int .i64 (p.fac:Int))) /\
   ∀w2,Below (w1.alloc (.cells #[.int .i64 (p.kind:Int),.int .i64 (p.at_:Int),.int .i64 (p.fac:Int)] 54)).heap.size (w1.alloc (.cells #[.int .i64 (p.kind:Int),.int .i64 (p.at_:Int),.int .i64 (p.fac:Int)] 54)) w2 ->
    Calls prog 27 #[.pointer (some ⟨Z.S.c,0,none⟩)] w2 (fun r w'=>r=.returned (.pointer (some ⟨Z.S.P.p,0,none⟩))/\w2=w') /\
    Calls prog 169 #[.pointer (some ⟨Z.S.P.p,0,none⟩),.int .i64 (p.fac:Int),.int .i64 (p.at_:Int)] w2 (fun r w'=>(w'.cell? ⟨Z.s,0,none⟩=some (.pointer (some ⟨Z.S.c,0,none⟩))/\w'.cell? ⟨w1.heap.size,1,none⟩=some (.int .i64 (p.at_:Int))/\w'.cell? ⟨w1.heap.size,2,none⟩=some (.int .i64 (p.fac:Int)))/\∃g:Nat,r=.returned (.pointer (some ⟨g,0,none⟩))/\Cells w' w.heap.size 191 [.pointer none,.int .u32 0,.int .i64 0]/\(∀a b c,(((w'.setCell ⟨w.heap.size,0,none⟩ a).setCell ⟨w.heap.size,1,none⟩ b).setCell ⟨w.heap.size,2,none⟩ c).cell? ⟨Z.s,0,none⟩=some (.pointer (some ⟨Z.S.c,0,none⟩))/\(((w'.setCell ⟨w.heap.size,0,none⟩ a).setCell ⟨w.heap.size,1,none⟩ b).setCell ⟨w.heap.size,2,none⟩ c).cell? ⟨w1.heap.size,1,none⟩=some (.int .i64 (p.at_:Int))/\(((w'.setCell ⟨w.heap.size,0,none⟩ a).setCell ⟨w.heap.size,1,none⟩ b).setCell ⟨w.heap.size,2,none⟩ c).cell? ⟨w1.heap.size,2,none⟩=some (.int .i64 (p.fac:Int)))/\∀a b c,Below w.heap.size w (((w'.setCell ⟨w.heap.size,0,none⟩ a).setCell ⟨w.heap.size,1,none⟩ b).setCell ⟨w.heap.size,2,none⟩ c)/\TblZ Z p g (((w'.setCell ⟨w.heap.size,0,none⟩ a).setCell ⟨w.heap.size,1,none⟩ b).setCell ⟨w.heap.size,2,none⟩ c)/\w.heap.size<=g)):=fun w1 Aw=>by
  have hR:=(Cells.new w 191 [.pointer none,.int .u32 0,.int .i64 0]).same (Aw.block w.heap.size (by simp));have LZ:Below w.heap.size w w1:=Q0e Aw;have Dv:=LZ.alloc LZ.size (.cells #[.int .i64 (p.kind:Int),.int .i64 (p.at_:Int),.int .i64 (p.fac:Int)] 54);have Or:=Cells.new w1 54 [.int .i64 (p.kind:Int),.int .i64 (p.at_:Int),.int .i64 (p.fac:Int)];have Ps:w.heap.size<w1.heap.size:=by have:=Aw.size;simp at this;omega
  have VH:=hR.alloc (.cells #[.int .i64 (p.kind:Int),.int .i64 (p.at_:Int),.int .i64 (p.fac:Int)] 54);refine⟨⟨SP.c0 (h.grown Dv).sep,Or.cell 1 _ rfl,Or.cell 2 _ rfl⟩,fun w2 Ai=>?_⟩;have KV:Below w.heap.size w w2:=Dv.trans (Ai.mono (by simp;omega));have s2:=(h.grown KV).sep;refine⟨Q1o (SP.sS s2),(J1i (SP.sS s2) ok hu).mono ?_⟩;rintro r w'⟨g,rfl,Ar,ht,hg⟩;have N5:=(Or.same (Ai.block w1.heap.size (by simp))).same (Ar.block w1.heap.size (by have:=Ai.size;simp at this;omega));have A9:Below w.heap.size w w':=KV.trans (Ar.mono KV.size);have T4:=(VH.same (Ai.block w.heap.size (by simp;omega))).same (Ar.block w.heap.size (by have:=Ai.size;simp at this;omega))
  refine⟨⟨SP.c0 (h.grown A9).sep,N5.cell 1 _ rfl,N5.cell 2 _ rfl⟩,g,rfl,T4,fun a b c=>?_,fun a b c=>?_⟩
  ·have B0:∀(W:World) (i k j:Nat) (u:Value),k≠w.heap.size->(W.setCell ⟨w.heap.size,i,none⟩ u).cell? ⟨k,j,none⟩=W.cell? ⟨k,j,none⟩:=fun W i k j u hk=>World.cell?_of_block (Below.heap_setCell _ _ _ _ (by simpa using hk))
   have Fc:Z.s≠w.heap.size:=fun hx=>by
    have:=h.lt (b:=Z.s) (by simp[SP.hl,SP.head,keys]);omega
   have Du:w1.heap.size≠w.heap.size:=by omega
   rw[B0 _ _ _ _ _ Fc,B0 _ _ _ _ _ Fc,B0 _ _ _ _ _ Fc,B0 _ _ _ _ _ Du,B0 _ _ _ _ _ Du,B0 _ _ _ _ _ Du,B0 _ _ _ _ _ Du,B0 _ _ _ _ _ Du,B0 _ _ _ _ _ Du];exact⟨SP.c0 (h.grown A9).sep,N5.cell 1 _ rfl,N5.cell 2 _ rfl⟩
  refine⟨((A9.setCell (J3b _) _).setCell (J3b _) _).setCell (J3b _) _,fun j v hj=>?_,by have:=Ai.size;simp at this;omega⟩;obtain⟨g',e,_,hl,hc⟩:=ht j v hj;obtain rfl:g=g':=by cases e;rfl
  clear e;have DE:w.heap.size<g:=by have:=Ai.size;simp at this;omega
  refine⟨g,rfl,fun hk=>?_,by simpa using hl,?_⟩
  ·have:=s2.lt hk;omega
  ·have Aa:∀(W:World) (i:Nat) (u:Value),(W.setCell ⟨w.heap.size,i,none⟩ u).cell? ⟨g,j,none⟩=W.cell? ⟨g,j,none⟩:=fun W i u=>World.cell?_of_block (Below.heap_setCell _ _ _ _ (by simp;omega))
   rw[Aa,Aa,Aa];exact hc
 clear h ok hp hu b1 s1;have A2:((p.kind:Nat):Int)=2:=by omega
 rw[A2] at hO;simp only[A2] at HC;clear A2 hk;generalize p.at_=pa at *
 go_enter func90,ntmps90;go_wp2_with fail;refine hO.mono ?_;rintro r w1⟨rfl,Aw⟩;obtain⟨⟨c1,c2,c3⟩,A7⟩:=HC.out w1 Aw;have Qe:=Q0a A7;have d1:(w1.alloc (.cells #[.int .i64 2,.int .i64 pa,.int .i64 (p.fac:Int)] 54)).drew.cell? ⟨Z.s,0,none⟩=some (.pointer (some ⟨Z.S.c,0,none⟩)):=c1;have d2:(w1.alloc (.cells #[.int .i64 2,.int .i64 pa,.int .i64 (p.fac:Int)] 54)).drew.cell? ⟨w1.heap.size,1,none⟩=some (.int .i64 pa):=c2;have d3:(w1.alloc (.cells #[.int .i64 2,.int .i64 pa,.int .i64 (p.fac:Int)] 54)).drew.cell? ⟨w1.heap.size,2,none⟩=some (.int .i64 (p.fac:Int)):=c3;clear Aw A7 HC hO;go_wp2_with fail
 have DD:=(Qe.out _ ((Below.refl _ _).drew)).1;have F1:=(Qe.out _ ((Below.refl _ _).drew)).2;have J9:=Q0a F1;clear F1 Qe
 go_region_held3 (fun w'=>w'.cell? ⟨Z.s,0,none⟩=some (.pointer (some ⟨Z.S.c,0,none⟩))/\w'.cell? ⟨w1.heap.size,1,none⟩=some (.int .i64 pa)/\w'.cell? ⟨w1.heap.size,2,none⟩=some (.int .i64 (p.fac:Int))) (first|exact⟨c1,c2,c3⟩|exact⟨d1,d2,d3⟩|exact Ak|exact De _ _ _)
  (first|(go_at_call 27;refine DD.mono ?_;rintro r w'⟨rfl,rfl⟩)|(go_at_call 169;refine J9.out.mono ?_;rintro r w3⟨Ak,g,rfl,Aj,De,hz⟩;have HZ:=Q0a hz;have e0:=Aj.cell 0 _ rfl;have e1:=Aj.cell 1 _ rfl;have e2:=Aj.cell 2 _ rfl;have f0:=Aj.free 0;have f1:=Aj.free 1;have f2:=Aj.free 2;have Ab:=Aj.lt;clear hz Aj J9))
 go_wp2_with fail;refine bodyPost_ret (v:=.tuple #[.agg #[.pointer (some ⟨g,0,none⟩),.int .u32 x,.int .i64 (p.fac:Int)],.int .i64 0]) (by simp[results,results90,go_sem,e0,e1,e2]) rfl ⟨g,rfl,HZ.out _ _ _⟩
theorem Q0N{w:World}{Z:SP}{fr:List Nat}{N K:Nat}(h:Sep w Z.hl)(ok:Z.S.Ok fr N K){x:Nat}(hx:x<4294967296){p:Pl}(hp:pget Z.S.l 1 x=some p)(hk:p.kind=2) :
  Calls prog 90 #[.pointer (some ⟨Z.s,0,none⟩),.int .u32 x] w fun r w'=>∃g:Nat,r=.returned (.tuple #[.agg #[.pointer (some ⟨g,0,none⟩),.int .u32 x,.int .i64 (p.fac:Int)],.int .i64 0])/\Below w.heap.size w w'/\TblZ Z p g w':=
 (Q9z h ok hx hp hk).mono fun r w' ⟨g,h1,h2,h3,_⟩=>⟨g,h1,h2,h3⟩
theorem Q7H{w:World}{Z:SP}(h:Sep w Z.hl){x:Nat}{e:Int}(he:e≠0)(hO:Calls prog 49 #[.pointer (some ⟨Z.S.c,0,none⟩),.int .u32 x,.int .i64 2] (w.alloc (.cells #[.pointer none,.int .u32 0,.int .i64 0] 191)) (Told (w.alloc (.cells #[.pointer none,.int .u32 0,.int .i64 0] 191)) (.tuple #[.agg #[.int .i64 0,.int .i64 0,.int .i64 0],.int .i64 e]))) :
  Calls prog 90 #[.pointer (some ⟨Z.s,0,none⟩),.int .u32 x] w (Told w (.tuple #[.agg #[.pointer none,.int .u32 0,.int .i64 0],.int .i64 e])):=by
 have b1:Below w.heap.size w (w.alloc (.cells #[.pointer none,.int .u32 0,.int .i64 0] 191)):=(Below.refl _ _).alloc (J3b _) _;have c0:=SP.c0 (h.grown b1).sep;have FV:(e==0)=false:=by simpa using he
 have HC:Hid (∀w1,Below (w.alloc (.cells #[.pointer none,.int .u32 0,.int .i64 0] 191)).heap.size (w.alloc (.cells #[.pointer none,.int .u32 0,.int .i64 0] 191)) w1->(∀o,Cells (w1.alloc o) w.heap.size 191 [.pointer none,.int .u32 0,.int .i64 0])/\∀o a b c,Below w.heap.size w ((((w1.alloc o).setCell ⟨w.heap.size,0,none⟩ a).setCell ⟨w.heap.size,1,none⟩ b).setCell ⟨w.heap.size,2,none⟩ c)):=fun w1 Aw=>by
  have hR:=(Cells.new w 191 [.pointer none,.int .u32 0,.int .i64 0]).same (Aw.block w.heap.size (by simp));exact⟨hR.alloc,fun o a b c=>((((Q0e Aw).alloc (Q0e Aw).size o).setCell (J3b _) _).setCell (J3b _) _).setCell (J3b _) _⟩
 clear h b1;go_enter func90,ntmps90;go_wp2_with fail;refine hO.mono ?_;rintro r w1⟨rfl,Aw⟩;obtain⟨BW,hz⟩:=HC.out w1 Aw;have Aj:=BW (.cells #[.int .i64 0,.int .i64 0,.int .i64 0] 54);have HZ:=Q0a hz;have e0:=Aj.cell 0 _ rfl;have e1:=Aj.cell 1 _ rfl;have e2:=Aj.cell 2 _ rfl;have f0:=Aj.free 0;have f1:=Aj.free 1;have f2:=Aj.free 2;have Ab:=Aj.lt;clear Aw hz Aj BW HC hO;go_wp2_with fail;refine bodyPost_ret (v:=.tuple #[.agg #[.pointer none,.int .u32 0,.int .i64 0],.int .i64 e]) (by simp[results,results90,go_sem,e0,e1,e2]) rfl ⟨rfl,HZ.out _ _ _ _⟩
theorem Q0I{w:World}{Z:SP}{fr:List Nat}{N K:Nat}(h:Sep w Z.hl)(ok:Z.S.Ok fr N K){x:Nat}(hx:x<4294967296)(e:Int)(hw:(pget Z.S.l 1 x=none/\e=8)∨∃p,pget Z.S.l 1 x=some p/\p.kind≠2/\e=10) :
  Calls prog 90 #[.pointer (some ⟨Z.s,0,none⟩),.int .u32 x] w (Told w (.tuple #[.agg #[.pointer none,.int .u32 0,.int .i64 0],.int .i64 e])):=by
 have s1:=(h.grown ((Below.refl w.heap.size w).alloc (J3b _) (.cells #[.pointer none,.int .u32 0,.int .i64 0] 191))).sep;rcases hw with ⟨hp,rfl⟩|⟨p,hp,hk,rfl⟩
 ·exact Q7H h (by decide) (Q4M (SP.sS s1) ok.inv.lok hx 2 hp)
 ·exact Q7H h (by decide) (Q3t (SP.sS s1) ok.inv.lok hx 2 hp (by decide) (by omega))
def J1k(Z:SP)(fr:List Nat)(N K:Nat)(own:Int)(i s:Nat)(o:Option Ent)(w w':World):Prop:=∃S' t',TurnP Z.S fr N K Z.tb own i s o S' t'/\Step Z.hl (Z.setS S' (updT Z.tb i t')).hl w w'
def WhyL(Z:SP)(fr:List Nat)(own:Int)(i s:Nat)(er:Int):Prop:=
 (er=5/\∃e,find Z.S.P.q.E own=some e/\Q0v e<48)∨(er=4/\NoRoom Z.S.P 6) ∨
 ∃a P1,GetOk Z.S.P fr own 6 a P1/\(Z.tb i).lf (s/16)=0/\((er=5/\∃e,find P1.q.E own=some e/\Q0v e<256)∨(er=4/\NoRoom P1 7))
def LayR(Z:SP)(fr:List Nat)(N K:Nat)(own:Int)(i s h r:Nat)(w:World)(er:Int)(w':World):Prop:=
 (er=0/\∃nd,J1k Z fr N K own i s (some ⟨h,r,nd⟩) w w')∨((er=4∨er=5)/\WhyL Z fr own i s er/\∃P',Tried Z.S.P fr Z.S.l P'/\Step Z.hl (Z.setS (Z.S.setP P') Z.tb).hl w w')
theorem Z2m{S:CO}{fr:List Nat}{N K:Nat}{tb:Nat->TB}{own:Int}{xl xn xn':List Nat}(ok:S.Ok fr N K)(t:TPX S tb own xl xn){i s:Nat}{p:Pl}(hi:S.l[i]?=some p)(h1:p.st=1)(h2:p.kind=2)(Af:(p.fac:Int)=own)(hs:s<256){e:Ent}(hn:(xn'++((tb i).setE s (some e)).nds).Perm (xn++(tb i).nds))
  (hA:Q0s (some e)<18446744073709551616) (hB:Q0W (some e)<18446744073709551616) {w:World} {g:Nat} (AE:Sep w S.hl) (hg:TblC S p g w) :
  Calls prog 103 #[.pointer (some ⟨g,0,none⟩),.int .i64 s,.int .u64 (Q0s (some e):Nat),.int .u64 (Q0W (some e):Nat)] w (SetR S fr N K tb own xl xn' i s (some e) w):=by
 by_cases hl:(tb i).lf (s/16)=0
 ·obtain⟨ac,F5⟩:=Q9o ok hi h1;rw[Af] at F5;exact Z8Q ok t hi h1 h2 Af hs hl F5 hn hA hB AE hg
 ·exact Z8P ok t hi h1 h2 Af hs hl hn hA hB AE hg
theorem Put1.turn{S:CO}{fr:List Nat}{N K:Nat}{tb:Nat->TB}{own:Int}{i s:Nat}{o:Option Ent}{w w':World}(h:Put1 S fr N K tb own [] [] i s o w w')(hf:∀j,j<256->(tb j).Full):J2h S fr N K tb own i s o w w':=by
 obtain⟨S',t',ok,t,en,full,lf,al,st⟩:=h;refine⟨S',t',⟨ok,t.done fun j hj=>?_,en,lf,al⟩,st⟩;by_cases e:j=i
 ·subst e;rw[updT_same];exact full (hf j hj)
 ·rw[Q0K e];exact hf j hj
theorem TurnP.after{S S1:CO}{fr:List Nat}{N K:Nat}{tb:Nat->TB}{own:Int}{i s:Nat}{o:Option Ent}{S':CO}{t':TB}(al:Alt S S1 own)(h:TurnP S1 fr N K tb own i s o S' t'):TurnP S fr N K tb own i s o S' t':=⟨h.ok,h.tpi,h.en,h.lf,al.trans h.alt⟩
structure BoxL(Z:SP)(g x f h r B:Nat)(w:World):Prop where
 x:AsideV Z.hl [.pointer (some ⟨g,0,none⟩),.int .u32 x,.int .i64 f] (some ⟨B,0,none⟩) w
 c:AsideV Z.hl [.int .u32 h,.int .i64 r] (some ⟨B+1,0,none⟩) w
theorem BoxL.step{Z Z':SP}{g x f h r B:Nat}{w w':World}(b:BoxL Z g x f h r B w)(st:Step Z.hl Z'.hl w w'):BoxL Z' g x f h r B w':=⟨b.x.step st,b.c.step st⟩
theorem AsideV.at{H:HL}{cs:List Value}{b:Nat}{w:World}(h:AsideV H cs (some ⟨b,0,none⟩) w)(j:Nat)(v:Value)(hj:cs[j]?=some v):w.cell? ⟨b,j,none⟩=some v:=by
 obtain⟨g,e,_,_,hc⟩:=h j v hj;cases e;exact hc
def HeldL(Z:SP)(g f h r B:Nat)(w':World):Prop:=w'.cell? ⟨Z.s,0,none⟩=some (.pointer (some ⟨Z.S.c,0,none⟩))/\w'.cell? ⟨B,0,none⟩=some (.pointer (some ⟨g,0,none⟩))/\w'.cell? ⟨B,2,none⟩=some (.int .i64 f)/\w'.cell? ⟨B+1,0,none⟩=some (.int .u32 h)/\w'.cell? ⟨B+1,1,none⟩=some (.int .i64 r)
theorem BoxL.held{Z:SP}{g x f h r B:Nat}{w:World}(b:BoxL Z g x f h r B w)(hs:Sep w Z.hl):HeldL Z g f h r B w:=⟨SP.c0 hs,b.x.at 0 _ rfl,b.x.at 2 _ rfl,b.c.at 0 _ rfl,b.c.at 1 _ rfl⟩
theorem HeldL.grown{Z:SP}{g f h r B:Nat}{w w':World}(b:HeldL Z g f h r B w)(hb:Below w.heap.size w w'):HeldL Z g f h r B w':=by
 obtain⟨a1,a2,a3,a4,a5⟩:=b;have k:∀{p:Addr} {v:Value},w.cell? p=some v->w'.cell? p=some v:=fun {p v} e=>(hb.cell (World.block_lt_of_cell? w p e)).trans e
 exact⟨k a1,k a2,k a3,k a4,k a5⟩
theorem Z6E{w w1:World}{Z:SP}{fr:List Nat}{N K:Nat}(hs:Sep w Z.hl)(hb:Below w.heap.size w w1)(ok:Z.S.Ok fr N K)(t:TPI Z.S Z.tb){i s x g B h r:Nat}{p:Pl}(hi:Z.S.l[i]?=some p)(h1:p.st=1)(h2:p.kind=2)(AB:s<256)(h0:(Z.tb i).en s=none)(hh:h<4294967295)(hr:r<16)
  (hg:TblZ Z p g w1) (Bn:BoxL Z g x p.fac h r B w1) :
  Calls prog 15 #[.pointer (some ⟨Z.S.P.p,0,none⟩),.int .i64 (p.fac:Int),.int .i64 6] w1 fun rv w2=>HeldL Z g p.fac h r B w2/\∃a er:Int,rv=.returned (.tuple #[.int .i64 a,.int .i64 er]) /\
   (((er=4∨er=5)/\LayR Z fr N K p.fac i s h r w er w2) ∨
    ∃A:Nat,a=(A:Int)/\er=0/\A<=1073741824/\∀w3,Below w2.heap.size w2 w3 ->
    Calls prog 103 #[.pointer (some ⟨g,0,none⟩),.int .i64 s,.int .u64 ((⟨h,r,0⟩:Ent).a:Nat),.int .u64 A] w3 fun rv w4=>HeldL Z g p.fac h r B w4/\∃er:Int,rv=.returned (.int .i64 er) /\
     ((er=0/\LayR Z fr N K p.fac i s h r w 0 w4)∨((er=4∨er=5)/\∀w5,Below w4.heap.size w4 w5 ->
      Calls prog 27 #[.pointer (some ⟨Z.S.c,0,none⟩)] w5 (fun r w'=>r=.returned (.pointer (some ⟨Z.S.P.p,0,none⟩))/\w5=w') /\
      Calls prog 21 #[.pointer (some ⟨Z.S.P.p,0,none⟩),.int .i64 (p.fac:Int),.int .i64 6,.int .i64 A] w5 fun rv w6=>rv=.returned (.int .i64 0)/\HeldL Z g p.fac h r B w6/\LayR Z fr N K p.fac i s h r w er w6))):=by
 have s1:=(hs.grown hb).sep;have Nq:Q1j 6=48:=costs_67.1;have AH:∃q∈Z.S.l,q.st=1/\(q.fac:Int)=(p.fac:Int):=⟨p,J5q hi,h1,rfl⟩
 have Ao:=Q1t ok.inv.len hi;refine(Q5G (CO.sP (SP.sS s1)) ok.inv.mem.pool (p.fac:Int) 6).mono ?_;rintro rv w2 MT;have zstep:∀{P':PL},P'.p=Z.S.P.p->Step Z.S.P.hl P'.hl w1 w2->Step Z.hl (Z.setS (Z.S.setP P') Z.tb).hl w w2:=fun {P'} e st=>(hs.grown hb).trans (SP.stepS s1 _ _ rfl (CO.stepP (SP.sS s1) P' e st))
 rcases MT with ⟨Dj,_⟩|⟨_,Aq,_⟩|⟨_,⟨e,he,A8⟩,rfl,st⟩|⟨n,ac,hk,Ta,Vg,F5,Ia,Kd⟩
 ·rw[Nq] at Dj;omega
 ·obtain⟨e,he⟩:=Q9o ok hi h1;rw[Aq] at he;cases he
 ·have st':=zstep rfl st;refine⟨(Bn.step (SP.stepS s1 _ _ rfl (CO.stepP (SP.sS s1) Z.S.P rfl st))).held st'.sep,0,5,rfl,.inl ⟨.inr rfl,.inr ⟨.inr rfl,.inl ⟨rfl,e,he,?_⟩,Z.S.P,Tried.refl ok.inv.mem.pool _,st'⟩⟩⟩;rw[Nq] at A8;exact A8
 ·obtain rfl:n=6:=by omega
  rcases Kd with ⟨A,P1,rfl,g6,st⟩|⟨Aq,rfl,st⟩
  ·have GF:Step Z.hl (Z.setS (Z.S.setP P1) Z.tb).hl w w2:=zstep g6.p st;obtain⟨ok1,t1⟩:=TPX.got ok (t.x (p.fac:Int)) (.inl rfl) g6 AH;rw[if_neg (by decide),if_pos rfl] at t1;have al1:=Alt.got ok g6;have st1:Step Z.hl (Z.setS (Z.S.paid P1 (p.fac:Int) ((Q0c 6:Nat):Int)) Z.tb).hl w w2:=GF;have Rh:A∈P1.usedOf 6:=by
    obtain⟨X,Y,_,e2⟩:=g6.used;rw[e2];simp
   have UY:=Q0m ok1.inv.mem.pool Rh;have GE:=Q0o ok1.inv.mem.pool;have Th:A+Q0c 6<=P1.a.mem.length:=UY.1;have Qs:P1.a.mem.length<=1073741824:=GE;have Dd:BoxL (Z.setS (Z.S.paid P1 (p.fac:Int) ((Q0c 6:Nat):Int)) Z.tb) g x p.fac h r B w2:=Bn.step (Z':=Z.setS (Z.S.paid P1 (p.fac:Int) ((Q0c 6:Nat):Int)) Z.tb) (SP.stepS s1 _ _ rfl (CO.stepP (SP.sS s1) P1 g6.p st));have Ch:TblZ (Z.setS (Z.S.paid P1 (p.fac:Int) ((Q0c 6:Nat):Int)) Z.tb) p g w2:=hg.step (Z':=Z.setS (Z.S.paid P1 (p.fac:Int) ((Q0c 6:Nat):Int)) Z.tb) (SP.stepS s1 _ _ rfl (CO.stepP (SP.sS s1) P1 g6.p st)) g6.p;refine⟨Dd.held st1.sep,(A:Int),0,rfl,.inr ⟨A,rfl,rfl,by omega,fun w3 Ar=>?_⟩⟩
   have st3:=st1.trans (st1.sep.grown Ar);have IL:=(Ch.grown st1.sep Ar).c;have Hv:=Dd.step (st1.sep.grown Ar);have BB:([]++((Z.tb i).setE s (some ⟨h,r,A⟩)).nds).Perm ([A]++(Z.tb i).nds):=TB.nds_set AB (e:=⟨h,r,A⟩) h0;have PE:Q0s (some (⟨h,r,A⟩:Ent))<18446744073709551616:=by
    show h+1+4294967296*r<_;omega
   refine(Z2m ok1 t1 (show(Z.S.paid P1 (p.fac:Int) ((Q0c 6:Nat):Int)).l[i]?=some p from hi) h1 h2 rfl AB BB PE (by show A<_;omega) (SP.sS st3.sep) IL).mono ?_;rintro rv w4 (⟨rfl,BC⟩|⟨Fu,st,FC⟩)
   ·obtain⟨S',t',T,stt⟩:=BC.turn t.full;have T0:=T.after al1;have stz:Step Z.hl (Z.setS S' (updT Z.tb i t')).hl w w4:=st3.trans (SP.stepS st3.sep S' (updT Z.tb i t') (T.alt.c) stt);refine⟨?_,0,rfl,.inl ⟨rfl,.inl ⟨rfl,A,S',t',T0,stz⟩⟩⟩;have A9:=Hv.step (SP.stepS st3.sep S' (updT Z.tb i t') T.alt.c stt);have:=A9.held stz.sep;exact⟨by rw[<- T0.alt.c];exact this.1,this.2⟩
   ·have st4:Step Z.hl (Z.setS (Z.S.paid P1 (p.fac:Int) ((Q0c 6:Nat):Int)) Z.tb).hl w w4:=st3.trans (SP.stepS st3.sep _ _ rfl st);have Lu:=Hv.step (SP.stepS st3.sep (Z.S.paid P1 (p.fac:Int) ((Q0c 6:Nat):Int)) Z.tb rfl st);have Aj:∃er:Int,rv=.returned (.int .i64 er)/\(er=4∨er=5)/\WhyL Z fr p.fac i s er:=by
     rcases FC with ⟨Aq,rfl⟩|⟨⟨e,he,A8⟩,rfl⟩
     ·exact⟨4,rfl,.inl rfl,.inr (.inr ⟨A,P1,g6,Fu,.inr ⟨rfl,Aq⟩⟩)⟩
     ·exact⟨5,rfl,.inr rfl,.inr (.inr ⟨A,P1,g6,Fu,.inl ⟨rfl,e,he,A8⟩⟩)⟩
    obtain⟨er,rfl,Co,hw⟩:=Aj;refine⟨Lu.held st4.sep,er,rfl,.inr ⟨Co,fun w5 AD=>?_⟩⟩;have st5:=st4.trans (st4.sep.grown AD);have Df:=Lu.step (st4.sep.grown AD);have km:=Q1o (SP.sS st5.sep);have GV:(Z.S.paid P1 (p.fac:Int) ((Q0c 6:Nat):Int)).P.p=Z.S.P.p:=g6.p;refine⟨?_,?_⟩
    ·have:=km;rw[show((Z.setS (Z.S.paid P1 (p.fac:Int) ((Q0c 6:Nat):Int)) Z.tb).S.P.p)=Z.S.P.p from g6.p] at this;exact this
    obtain⟨ac1,Gn⟩:=Q9o ok1 (show(Z.S.paid P1 (p.fac:Int) ((Q0c 6:Nat):Int)).l[i]?=some p from hi) h1;have MW:=t1.paid ok1 Gn;rw[J5B,J7e] at MW;obtain⟨c,hc⟩:=PL.cls ok1.inv.mem.pool (by omega:1<=6) (by omega);have kp:=Q4z (CO.sP (SP.sS st5.sep)) ok1.inv.mem.pool (p.fac:Int) Gn 6 (by rw[Q5h];omega) c hc A (by rw[<- Q0V hc];exact Rh) (by omega);rw[show((Z.setS (Z.S.paid P1 (p.fac:Int) ((Q0c 6:Nat):Int)) Z.tb).S.P.p)=Z.S.P.p from g6.p] at kp;refine kp.mono ?_;rintro rv w6⟨rfl,P2,b6,stp⟩;have tr:Tried Z.S.P fr Z.S.l P2:=(g6.gotM ok.inv.mem.pool).back ok.inv.mem (b6.backM ok1.inv.mem.pool)
    have stz:Step Z.hl (Z.setS (Z.S.setP P2) Z.tb).hl w w6:=st5.trans (SP.stepS st5.sep _ _ rfl (CO.stepP (SP.sS st5.sep) P2 b6.p stp));have Pa:=Df.step (Z':=Z.setS (Z.S.setP P2) Z.tb) (SP.stepS st5.sep _ _ rfl (CO.stepP (SP.sS st5.sep) P2 b6.p stp));exact⟨rfl,Pa.held stz.sep,.inr ⟨Co,hw,P2,tr,stz⟩⟩
  ·have st':=zstep rfl st;exact⟨(Bn.step (SP.stepS s1 _ _ rfl (CO.stepP (SP.sS s1) Z.S.P rfl st))).held st'.sep,0,4,rfl,.inl ⟨.inl rfl,.inr ⟨.inl rfl,.inr (.inl ⟨rfl,Aq⟩),Z.S.P,Tried.refl ok.inv.mem.pool _,st'⟩⟩⟩
theorem Q6B(w:World)(h r:Nat)(hh:h<4294967295)(hr:r<16):Calls prog 104 #[.agg #[.int .u32 h,.int .i64 r]] w (Told w (.int .u64 ((⟨h,r,0⟩:Ent).a:Nat))):=by
 have hn:=Z9d h r hh hr;have hA:=Cells.new w 72 [.int .u32 h,.int .i64 r];have a0:=hA.cell 0 _ rfl;have a1:=hA.cell 1 _ rfl;have hb:Below w.heap.size w (w.alloc (.cells #[.int .u32 h,.int .i64 r] 72)):=(Below.refl _ _).alloc (J3b _) _;have HB:=Q0a hb;have Uj:(0:Int)<=(h:Int)/\(h:Int)<4294967295:=by omega
 have Kb:(0:Int)<=(r:Int)/\(r:Int)<16:=by omega
 obtain⟨q1,q2⟩:=Uj;obtain⟨q3,q4⟩:=Kb;generalize ((⟨h,r,0⟩:Ent).a:Nat)=z at *
 clear hA hb hh hr;go_enter func104,ntmps104;go_wp2_with fail
 (try go_ret);exact⟨rfl,HB.out⟩
theorem Q8t{w:World}{Z:SP}{fr:List Nat}{N K:Nat}(hs:Sep w Z.hl)(ok:Z.S.Ok fr N K)(t:TPI Z.S Z.tb){i s x g h r:Nat}{p:Pl}(hi:Z.S.l[i]?=some p)(h1:p.st=1)(h2:p.kind=2)(AB:s<256)(h0:(Z.tb i).en s=none)(hh:h<4294967295)(hr:r<16)(hg:TblZ Z p g w) :
  Calls prog 98 #[.pointer (some ⟨Z.s,0,none⟩),.agg #[.pointer (some ⟨g,0,none⟩),.int .u32 x,.int .i64 (p.fac:Int)],.int .i64 s,.agg #[.int .u32 h,.int .i64 r]] w fun rv w'=>∃er:Int,rv=.returned (.int .i64 er)/\LayR Z fr N K p.fac i s h r w er w':=by
 have hb:Below w.heap.size w ((w.alloc (.cells #[.pointer (some ⟨g,0,none⟩),.int .u32 x,.int .i64 (p.fac:Int)] 191)).alloc (.cells #[.int .u32 h,.int .i64 r] 72)):=((Below.refl _ _).alloc (J3b _) _).alloc (by simp) _;have Bn:BoxL Z g x p.fac h r w.heap.size ((w.alloc (.cells #[.pointer (some ⟨g,0,none⟩),.int .u32 x,.int .i64 (p.fac:Int)] 191)).alloc (.cells #[.int .u32 h,.int .i64 r] 72)):=by
  refine⟨fun j v hj=>⟨w.heap.size,rfl,fun hk=>by have:=hs.lt hk;omega,by simp;omega,?_⟩,fun j v hj=>⟨w.heap.size+1,rfl,fun hk=>by have:=hs.lt hk;omega,by simp,?_⟩⟩
  ·exact((Cells.new w 191 [.pointer (some ⟨g,0,none⟩),.int .u32 x,.int .i64 (p.fac:Int)]).alloc _).cell j v hj
  ·have:=(Cells.new (w.alloc (.cells #[.pointer (some ⟨g,0,none⟩),.int .u32 x,.int .i64 (p.fac:Int)] 191)) 72 [.int .u32 h,.int .i64 r]).cell j v hj
   simpa using this
 have Kf:Hid (∀w1,Below ((w.alloc (.cells #[.pointer (some ⟨g,0,none⟩),.int .u32 x,.int .i64 (p.fac:Int)] 191)).alloc (.cells #[.int .u32 h,.int .i64 r] 72)).heap.size ((w.alloc (.cells #[.pointer (some ⟨g,0,none⟩),.int .u32 x,.int .i64 (p.fac:Int)] 191)).alloc (.cells #[.int .u32 h,.int .i64 r] 72)) w1->HeldL Z g p.fac h r w.heap.size w1/\Calls prog 27 #[.pointer (some ⟨Z.S.c,0,none⟩)] w1 (fun r w'=>r=.returned (.pointer (some ⟨Z.S.P.p,0,none⟩))/\w1=w')/\_):=fun w1 Aw=>by
  have Al:Below w.heap.size w w1:=hb.trans (Aw.mono (by simp;omega));have s0:=(hs.grown hb).sep;have Dd:=Bn.step (s0.grown Aw);have s1:=(hs.grown Al).sep;exact⟨Dd.held s1,Q1o (SP.sS s1),Z6E hs Al ok t hi h1 h2 AB h0 hh hr (hg.grown hs Al) Dd⟩
 have BV:=(Kf.out _ (Below.refl _ _)).1;have DP:=(Kf.out _ ((Below.refl _ _).drew)).1;have DD:=(Kf.out _ ((Below.refl _ _).drew)).2.1;have Da:=(Kf.out _ ((Below.refl _ _).drew)).2.2;have Dr:=Q0a Da;have IX:Hid (∀w,Calls prog 104 #[.agg #[.int .u32 h,.int .i64 r]] w (Told w (.int .u64 ((⟨h,r,0⟩:Ent).a:Nat)))):=fun w=>Q6B w h r hh hr
 clear Kf Bn hb hs ok t hi h1 h2 h0 hg Da;generalize LayR Z fr N K p.fac i s h r w=Q at *
 unfold HeldL at BV DP;go_enter func98,ntmps98;go_wp2_with fail
 go_region_held3 (fun w'=>w'.cell? ⟨Z.s,0,none⟩=some (.pointer (some ⟨Z.S.c,0,none⟩))/\w'.cell? ⟨w.heap.size,0,none⟩=some (.pointer (some ⟨g,0,none⟩))/\w'.cell? ⟨w.heap.size,2,none⟩=some (.int .i64 (p.fac:Int))/\w'.cell? ⟨w.heap.size+1,0,none⟩=some (.int .u32 h)/\w'.cell? ⟨w.heap.size+1,1,none⟩=some (.int .i64 r)) (first|exact BV|exact DP|exact Ak)
  (first|(go_at_call 27;refine DD.mono ?_;rintro r w'⟨rfl,rfl⟩)|(go_at_call 15;refine Dr.out.mono ?_;rintro r w2⟨Ak,a,er,rfl,hy⟩;have HY:=Q0a hy;clear hy Dr))
 rcases HY.out with ⟨Co,hq⟩|⟨A,rfl,rfl,hA,hy⟩
 ·have HQ:=Q0a hq;clear hq HY BV DP DD IX Ak;rcases Co with rfl|rfl
  all_goals
   go_wp2_with fail
   (try go_ret);exact⟨_,rfl,HQ.out⟩
 ·have HS:=Q0a hy;have Pg:(0:Int)<=(A:Int):=by omega
  have QS:(A:Int)<=1073741824:=by omega
  have U9:IntKind.u64.wrap (A:Int)=(A:Int):=by rw[IntKind.wrap_u64];omega
  have PN:IntKind.i64.wrap (A:Int)=(A:Int):=Go.IntWalk.i64_in _ (by omega);have Ep:HeldL Z g p.fac h r w.heap.size w2.drew:=Ak;generalize ((⟨h,r,0⟩:Ent).a:Nat)=za at *
  clear hy HY BV DP DD hA;unfold HeldL at Ak Ep;go_wp2_with fail
  go_region_held3 (fun w'=>w'.cell? ⟨Z.s,0,none⟩=some (.pointer (some ⟨Z.S.c,0,none⟩))/\w'.cell? ⟨w.heap.size,0,none⟩=some (.pointer (some ⟨g,0,none⟩))/\w'.cell? ⟨w.heap.size,2,none⟩=some (.int .i64 (p.fac:Int))/\w'.cell? ⟨w.heap.size+1,0,none⟩=some (.int .u32 h)/\w'.cell? ⟨w.heap.size+1,1,none⟩=some (.int .i64 r)) (first|exact Ak|exact Ep|exact Gr|exact BS)
   (first|(go_at_call 104;refine(IX.out _).mono ?_;rintro r w3⟨rfl,Ar⟩;have Gr:=HeldL.grown Ep Ar;have FB:=Q0a Ar;clear Ar IX)|(go_at_call 103;refine(HS.out _ (((Below.refl w2.heap.size w2).drew).trans FB.out)).mono ?_;rintro r w4⟨BS,er,rfl,hz⟩;have HZ:=Q0a hz;clear hz HS))
  rcases HZ.out with ⟨rfl,hq⟩|⟨Co,hy⟩
  ·have HQ:=Q0a hq;clear hq HZ Ak Ep Gr BS;go_wp2_with fail
   (try go_ret);exact⟨_,rfl,HQ.out⟩
  ·have Mm:HeldL Z g p.fac h r w.heap.size w4.drew:=BS;have DD:=(hy _ ((Below.refl _ _).drew)).1;have HP:=Q0a (hy _ ((Below.refl _ _).drew)).2;have FV:(er==0)=false:=by rcases Co with rfl|rfl <;> rfl
   clear hy HZ Ak Ep Gr Co;unfold HeldL at BS Mm;go_wp2_with fail
   go_region_held3 (fun w'=>w'.cell? ⟨Z.s,0,none⟩=some (.pointer (some ⟨Z.S.c,0,none⟩))/\w'.cell? ⟨w.heap.size,0,none⟩=some (.pointer (some ⟨g,0,none⟩))/\w'.cell? ⟨w.heap.size,2,none⟩=some (.int .i64 (p.fac:Int))/\w'.cell? ⟨w.heap.size+1,0,none⟩=some (.int .u32 h)/\w'.cell? ⟨w.heap.size+1,1,none⟩=some (.int .i64 r)) (first|exact BS|exact Mm|exact Nq)
    (first|(go_at_call 27;refine DD.mono ?_;rintro r w'⟨rfl,rfl⟩)|(go_at_call 21;refine HP.out.mono ?_;rintro r w6⟨rfl,Nq,hq⟩;have HQ:=Q0a hq;clear hq HP))
   go_wp2_with fail
   (try go_ret);exact⟨_,rfl,HQ.out⟩
def Z6F(Z:SP)(g f B:Nat)(w':World):Prop:=w'.cell? ⟨Z.s,0,none⟩=some (.pointer (some ⟨Z.S.c,0,none⟩))/\w'.cell? ⟨B,0,none⟩=some (.pointer (some ⟨g,0,none⟩))/\w'.cell? ⟨B,2,none⟩=some (.int .i64 f)
theorem Z3t{w w1:World}{Z:SP}{fr:List Nat}{N K:Nat}(hs:Sep w Z.hl)(hb:Below w.heap.size w w1)(ok:Z.S.Ok fr N K)(t:TPI Z.S Z.tb){i s x g B:Nat}{p:Pl}{e:Ent}(hi:Z.S.l[i]?=some p)(h1:p.st=1)(h2:p.kind=2)(AB:s<256)(he:(Z.tb i).en s=some e)
  (hg:TblZ Z p g w1) (Bn:AsideV Z.hl [.pointer (some ⟨g,0,none⟩),.int .u32 x,.int .i64 (p.fac:Int)] (some ⟨B,0,none⟩) w1) :
  Calls prog 173 #[.pointer (some ⟨g,0,none⟩),.int .i64 s] w1 fun rv w2=>rv=.returned (.int .i64 0)/\Z6F Z g p.fac B w2/\e.nd<=1073741824/\∀w3,Below w2.heap.size w2 w3 ->
   Calls prog 27 #[.pointer (some ⟨Z.S.c,0,none⟩)] w3 (fun r w'=>r=.returned (.pointer (some ⟨Z.S.P.p,0,none⟩))/\w3=w') /\
   Calls prog 21 #[.pointer (some ⟨Z.S.P.p,0,none⟩),.int .i64 (p.fac:Int),.int .i64 6,.int .i64 (e.nd:Int)] w3 fun rv w4=>rv=.returned (.int .i64 0)/\Z6F Z g p.fac B w4/\J1k Z fr N K p.fac i s none w w4:=by
 have s1:=(hs.grown hb).sep;have AH:∃q∈Z.S.l,q.st=1/\(q.fac:Int)=(p.fac:Int):=⟨p,J5q hi,h1,rfl⟩
 have Ao:=Q1t ok.inv.len hi;refine(Z3k ok (t.x (p.fac:Int)) hi h1 h2 rfl AB he (SP.sS s1) hg.c).mono ?_;rintro rv w2⟨rfl,S1,t',ok1,t1,en,full,lf,al,st⟩;have st1z:=SP.stepS s1 S1 (updT Z.tb i t') al.c st;have st1:Step Z.hl (Z.setS S1 (updT Z.tb i t')).hl w w2:=(hs.grown hb).trans st1z;have Dd:=AsideV.step Bn st1z;have NU:e.nd∈S1.P.usedOf 6:=t1.nds.mem_iff.1 (by simp);have hm:=Q0m ok1.inv.mem.pool NU;have GE:=Q0o ok1.inv.mem.pool;have BV:∀{w3:World} {Z':SP},Z'.s=Z.s->Z'.S.c=Z.S.c->Sep w3 Z'.hl->AsideV Z'.hl [.pointer (some ⟨g,0,none⟩),.int .u32 x,.int .i64 (p.fac:Int)] (some ⟨B,0,none⟩) w3->Z6F Z g p.fac B w3:=fun {w3 Z'} e1 e2 hz hx=>by
  have:=SP.c0 hz;rw[e1,e2] at this;exact⟨this,hx.at 0 _ rfl,hx.at 2 _ rfl⟩
 refine⟨rfl,BV (Z':=Z.setS S1 (updT Z.tb i t')) rfl al.c st1.sep Dd,by omega,fun w3 Ar=>?_⟩;have st3:=st1.trans (st1.sep.grown Ar);have Hv:=AsideV.step Dd (st1.sep.grown Ar);have Gq:S1.l[i]?=some p:=by rw[al.l];exact hi
 have km:=Q1o (SP.sS st3.sep);have GV:(Z.setS S1 (updT Z.tb i t')).S.P.p=Z.S.P.p:=al.same.p;have A7:(Z.setS S1 (updT Z.tb i t')).S.c=Z.S.c:=al.c;rw[GV,A7] at km;refine⟨km,?_⟩;obtain⟨ac1,Gn⟩:=Q9o ok1 Gq h1;have MW:=t1.paid ok1 Gn;rw[J5B,J7e] at MW;obtain⟨c,hc⟩:=PL.cls ok1.inv.mem.pool (by omega:1<=6) (by omega);have kp:=Q4z (CO.sP (SP.sS st3.sep)) ok1.inv.mem.pool (p.fac:Int) Gn 6 (by rw[Q5h];omega) c hc e.nd (by rw[<- Q0V hc];exact NU) (by omega);rw[GV] at kp;refine kp.mono ?_;rintro rv w4⟨rfl,P2,b6,stp⟩;have Nb:∃q∈S1.l,q.st=1/\(q.fac:Int)=(p.fac:Int):=by rw[al.l];exact AH
 obtain⟨ok2,t2⟩:=TPX.put (xl:=[]) (xn:=[]) ok1 (.inl rfl) (by rw[if_neg (by decide),if_pos rfl];exact t1) b6 Nb;have al2:=al.trans (Alt.put ok1 b6);have stz:Step (Z.setS S1 (updT Z.tb i t')).hl ((Z.setS S1 (updT Z.tb i t')).setS (S1.paid P2 (p.fac:Int) (-((Q0c 6:Nat):Int))) (updT Z.tb i t')).hl w3 w4:=SP.stepS st3.sep _ _ rfl (CO.stepPaid (SP.sS st3.sep) P2 (p.fac:Int) _ b6.p stp);have stf:Step Z.hl (Z.setS (S1.paid P2 (p.fac:Int) (-((Q0c 6:Nat):Int))) (updT Z.tb i t')).hl w w4:=st3.trans stz;refine⟨rfl,BV (Z':=Z.setS (S1.paid P2 (p.fac:Int) (-((Q0c 6:Nat):Int))) (updT Z.tb i t')) rfl al2.c stf.sep (AsideV.step Hv stz),_,t',⟨ok2,t2.done fun j hj=>?_,en,lf,al2⟩,stf⟩
 by_cases ej:j=i
 ·subst ej;rw[updT_same];exact full (t.full j hj)
 ·rw[Q0K ej];exact t.full j hj
theorem Q4P{w:World}{Z:SP}{fr:List Nat}{N K:Nat}(hs:Sep w Z.hl)(ok:Z.S.Ok fr N K)(t:TPI Z.S Z.tb){i s x g:Nat}{p:Pl}{e:Ent}(hi:Z.S.l[i]?=some p)(h1:p.st=1)(h2:p.kind=2)(AB:s<256)(he:(Z.tb i).en s=some e)(hg:TblZ Z p g w) :
  Calls prog 99 #[.pointer (some ⟨Z.s,0,none⟩),.agg #[.pointer (some ⟨g,0,none⟩),.int .u32 x,.int .i64 (p.fac:Int)],.int .i64 s] w fun rv w'=>rv=.returned (.tuple #[])/\J1k Z fr N K p.fac i s none w w':=by
 have hb:Below w.heap.size w (w.alloc (.cells #[.pointer (some ⟨g,0,none⟩),.int .u32 x,.int .i64 (p.fac:Int)] 191)):=(Below.refl _ _).alloc (J3b _) _;have Bn:AsideV Z.hl [.pointer (some ⟨g,0,none⟩),.int .u32 x,.int .i64 (p.fac:Int)] (some ⟨w.heap.size,0,none⟩) (w.alloc (.cells #[.pointer (some ⟨g,0,none⟩),.int .u32 x,.int .i64 (p.fac:Int)] 191)):=fun j v hj=>⟨w.heap.size,rfl,fun hk=>by have:=hs.lt hk;omega,by simp,(Cells.new w 191 [.pointer (some ⟨g,0,none⟩),.int .u32 x,.int .i64 (p.fac:Int)]).cell j v hj⟩
 have T1:=(t.x (p.fac:Int)).tt ok hi h1 h2 (SP.sS (hs.grown hb).sep) (hg.grown hs hb).c;have kg:=Q3R T1 (s:Int);rw[show(Z.tb i).at' (s:Int)=some e by unfold TB.at';rw[if_pos ⟨by omega,by omega⟩,J4h,he]] at kg;have kc:=Z3t hs hb ok t hi h1 h2 AB he (hg.grown hs hb) Bn;have HK:=Q0a kc;have b0:=Bn.at 0 _ rfl;unfold getV Q0W at kg;generalize Q0s (some e)=ca at *
 clear hb hs ok t hi h1 h2 he hg T1 kc Bn;go_enter func99,ntmps99;go_wp2_with fail;refine kg.mono ?_;rintro r w1⟨rfl,rfl⟩;go_wp2_with fail;refine HK.out.mono ?_;rintro r w2⟨rfl,Ak,AO,hy⟩;have DD:=(hy _ ((Below.refl _ _).drew)).1;have HP:=Q0a (hy _ ((Below.refl _ _).drew)).2;clear hy HK kg;have GG:Z6F Z g p.fac w.heap.size w2.drew:=Ak;generalize e.nd=nd at *
 have Dk:(0:Int)<=(nd:Int)/\(nd:Int)<=1073741824:=by omega
 obtain⟨n0,n1⟩:=Dk;have U9:IntKind.u64.wrap (nd:Int)=(nd:Int):=by rw[IntKind.wrap_u64];omega
 have PN:IntKind.i64.wrap (nd:Int)=(nd:Int):=Go.IntWalk.i64_in _ (by omega);unfold Z6F at Ak GG;go_wp2_with fail
 go_region_held3 (fun w'=>w'.cell? ⟨Z.s,0,none⟩=some (.pointer (some ⟨Z.S.c,0,none⟩))/\w'.cell? ⟨w.heap.size,0,none⟩=some (.pointer (some ⟨g,0,none⟩))/\w'.cell? ⟨w.heap.size,2,none⟩=some (.int .i64 (p.fac:Int))) (first|exact Ak|exact GG|exact De)
  (first|(go_at_call 27;refine DD.mono ?_;rintro r w'⟨rfl,rfl⟩)|(go_at_call 21;refine HP.out.mono ?_;rintro r w4⟨rfl,De,hq⟩;have HQ:=Q0a hq;clear hq HP))
 go_wp2_with fail
 first|exact⟨rfl,HQ.out⟩|(go_end0;exact⟨rfl,HQ.out⟩)
theorem J1l{N:List (En Nd)}(hs:N.Pairwise (fun a b=>(a.q.sp,a.q.sl)≠(b.q.sp,b.q.sl)))(Ae:N.Pairwise (fun a b=>a.id≠b.id)){id:Int}{e:En Nd}(hf:find N id=some e):delS (okv N) (e.q.sp,e.q.sl)=okv (rem N id):=by
 obtain⟨A,B,hN,_,hr⟩:=Q3i Ae hf;rw[hr];rw[hN,J3P,J3D] at hs;obtain⟨_,⟨hB,_⟩,hA⟩:=hs
 conv=>lhs;rw[hN]
 unfold delS okv;rw[J6G,J3e,J4Z,J7p,J6G];have a1:List.filter (fun q=>decide (q.1≠(e.q.sp,e.q.sl))) (A.map fun e=>((e.q.sp,e.q.sl),Value.int .i64 e.id))=A.map fun e=>((e.q.sp,e.q.sl),Value.int .i64 e.id):=by
  rw[J7k];intro x hx;obtain⟨c,hc,rfl⟩:=J3h.1 hx;show decide ((c.q.sp,c.q.sl)≠(e.q.sp,e.q.sl))=true;exact decide_eq_true (hA c hc e (by simp))
 have a2:List.filter (fun q=>decide (q.1≠(e.q.sp,e.q.sl))) (B.map fun e=>((e.q.sp,e.q.sl),Value.int .i64 e.id))=B.map fun e=>((e.q.sp,e.q.sl),Value.int .i64 e.id):=by
  rw[J7k];intro x hx;obtain⟨c,hc,rfl⟩:=J3h.1 hx;show decide ((c.q.sp,c.q.sl)≠(e.q.sp,e.q.sl))=true;exact decide_eq_true (hB c hc).symm
 rw[a1,a2,if_neg (by simp)]
def FO.cut(q:FO)(id:Int):FO:={q with N:=rem q.N id}
theorem FO.cut_perm{q:FO}(Ae:q.N.Pairwise (fun a b=>a.id≠b.id)){id:Int}{e:En Nd}(hf:find q.N id=some e) :
  (q.head::(q.m,isMI (kvs (rem q.N id)))::(q.o,isMS (okv (rem q.N id)))::q.N.flatMap (ndH q.kr)).Perm ((q.cut id).hl++ndH q.kr e):=by
 obtain⟨A,B,hN,_,hr⟩:=Q3i Ae hf;have e1:(q.cut id).hl=q.head::(q.m,isMI (kvs (rem q.N id)))::(q.o,isMS (okv (rem q.N id)))::(A.flatMap (ndH q.kr)++B.flatMap (ndH q.kr)):=by
  show q.head::(q.m,isMI (kvs (rem q.N id)))::(q.o,isMS (okv (rem q.N id)))::(rem q.N id).flatMap (ndH q.kr)=_;rw[hr,J3K]
 have e2:q.N.flatMap (ndH q.kr)=A.flatMap (ndH q.kr)++(ndH q.kr e++B.flatMap (ndH q.kr)):=by
  conv=>lhs;rw[hN]
  rw[J3K,J3z]
 rw[e1,e2];simp only[J5n];refine List.Perm.cons _ (List.Perm.cons _ (List.Perm.cons _ ?_));rw[J4c];exact J5R _ J5P
theorem FO.spots_ok{q:FO}(hn:∀e∈q.N,0<=e.q.sp/\e.q.sp<4294967296/\0<=e.q.sl/\e.q.sl<256):∀p∈okv q.N,Q1Q prog 173 p.1:=fun p hp=>by
 obtain⟨c,hc,rfl⟩:=J3h.1 hp;obtain⟨h1,h2,h3,h4⟩:=hn c hc;exact Q3u (p:=(c.q.sp,c.q.sl)) h1 (by show c.q.sp<_;omega) h3 (by show c.q.sl<_;omega)
theorem FO.okv_nd{N:List (En Nd)}(hs:N.Pairwise (fun a b=>(a.q.sp,a.q.sl)≠(b.q.sp,b.q.sl))):(okv N).Pairwise (fun a b=>a.1≠b.1):=by
 unfold okv;exact J3H.2 hs
theorem FO.delSteps{w:World}{q:FO}(h:Sep w q.hl)(Ae:q.N.Pairwise (fun a b=>a.id≠b.id))(hs:q.N.Pairwise (fun a b=>(a.q.sp,a.q.sl)≠(b.q.sp,b.q.sl)))(hn:∀e∈q.N,0<=e.q.sp/\e.q.sp<4294967296/\0<=e.q.sl/\e.q.sl<256)
  {id:Int} {e:En Nd} (hf:find q.N id=some e) (t1 t2 t3 t4:TypeId) :
  ∃w3,(Builtin.delete_ #[280,t1] t2 #[.map (some q.m),.int .i64 id]).run prog w=.ok (.tuple #[]) w3/\Step q.hl (q.head::(q.m,isMI (kvs (rem q.N id)))::(q.o,isMS (okv q.N))::q.N.flatMap (ndH q.kr)) w w3 /\
   ∀w3',Below w3.heap.size w3 w3'->∃w4,(Builtin.delete_ #[281,t3] t4 #[.map (some q.o),.agg #[.int .i64 e.q.sp,.int .i64 e.q.sl]]).run prog w3'=.ok (.tuple #[]) w4/\Step q.hl ((q.cut id).hl++ndH q.kr e) w w4:=by
 obtain⟨Ca,Fd⟩:=Q0b hf;obtain⟨w3,r3,m3,g3⟩:=Q3Y (FO.map h) id t1 t2 underlying280 underlying3;rw[Q7Z] at m3;obtain⟨es,Ah,ho,hr⟩:=m3;have s3:=Sep.turn (A:=[q.head]) (B:=(q.o,isMS (okv q.N))::q.N.flatMap (ndH q.kr)) (q':=isMI (kvs (rem q.N id))) h g3 ⟨_,ho,es,Ah,rfl,hr⟩;refine⟨w3,r3,s3,fun w3' hb=>?_⟩;have s3':=s3.trans (s3.sep.grown hb);have m3':Q3q w3' q.o (okv q.N):=s3'.sep.map (by simp[isMS]);have GH:=hn e Ca;obtain⟨w4,r4,m4,g4⟩:=Q6m m3' Z0Q (FO.okv_nd hs) (FO.spots_ok hn) (Q3u (p:=(e.q.sp,e.q.sl)) GH.1 (by show e.q.sp<_;omega) GH.2.2.1 (by show e.q.sl<_;omega)) t3 t4 underlying281
 rw[J1l hs Ae hf] at m4;obtain⟨es4,EW,Ov,Lc⟩:=m4;have s4:=Sep.turn (A:=[q.head,(q.m,isMI (kvs (rem q.N id)))]) (B:=q.N.flatMap (ndH q.kr)) (q':=isMS (okv (rem q.N id))) s3'.sep g4 ⟨_,Ov,es4,EW,rfl,Lc⟩;exact⟨w4,r4,(s3'.trans s4).perm (J6w _) (FO.cut_perm Ae hf)⟩
end Go.Proofs.YtfidemmgofcnmaaGreatDoor
