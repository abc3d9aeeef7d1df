/- SpaceItems returns true at every input. No condition. Part of its proof. -/
import Derived.Test.YtlakjlmaboioiaaGreatDoorSi01
import Derived.Test.YtlakjlmaboioiaaGreatDoorSi16
import Derived.Laws.BitsAllLaws
import Derived.BigQuiet
import Derived.Test.YtlakjlmaboioiaaGreatDoorSi11
set_option maxHeartbeats 4000000
set_option maxRecDepth 100000
set_option linter.unusedVariables false
namespace Go.Proofs.YtlakjlmaboioiaaGreatDoor
open Go.RowKit Go.Proofs.Tryz
structure TurnP (S:CO) (fr:List Nat) (N K:Nat) (tb:Nat->TB) (own:Int) (i s:Nat) (o:Option Ent) (S':CO) (t':TB):Prop where
 ok:S'.Ok fr N K
 tpi:TPI S' (updT tb i t')
 en:∀x,t'.en x=if x=s then o else (tb i).en x
 lf:∀k,(tb i).lf k=0∨t'.lf k=0∨t'.lf k=(tb i).lf k
 alt:Alt S S' own
def Z9N (S:CO) (fr:List Nat) (N K:Nat) (tb:Nat->TB) (own:Int) (i s:Nat) (o:Option Ent) (w w':World):Prop:=∃S' t',TurnP S fr N K tb own i s o S' t'/\Step S.hl S'.hl w w'
theorem Q7t {l:List Pl} {tb:Nat->TB} (N N':List (En Nd)) {h s:Nat} {p:Pl} (hp:pget l 1 h=some p) (hk:p.kind=2) (hs:s<256) {t':TB} {o:Option Ent} (ht:∀x,t'.en x=if x=s then o else (tb (h%256)).en x) :
  avOf l (updT tb (h%256) t') N'=⟨setA (avOf l tb N).en h s (o.map Ent.c),N'⟩:=by
 unfold avOf setA;congr 1;funext h' s';rw [Q3i hp hk hs ht];split <;> rfl
theorem Q6i {l:List Pl} {tb:Nat->TB} {N:List (En Nd)} {h s:Nat} {e:Ent} (he:Q0f l tb h s=some e):(avOf l tb N).en h s=some (e.h,e.r):=by
 unfold avOf;simp only [he];rfl
theorem av_none {l:List Pl} {tb:Nat->TB} {N:List (En Nd)} {h s:Nat}:(avOf l tb N).en h s=none↔Q0f l tb h s=none:=by
 unfold avOf;simp
theorem Q2t {l:List Pl} {tb:Nat->TB} {N:List (En Nd)} {h s:Nat} {x:Nat×Nat} (hx:(avOf l tb N).en h s=some x):∃e,Q0f l tb h s=some e/\x=(e.h,e.r):=by
 unfold avOf at hx;simp only at hx;cases he:Q0f l tb h s with
 | none=>rw [he] at hx;cases hx
 | some e=>rw [he] at hx;cases hx;exact⟨e,rfl,rfl⟩
theorem Q2g {m:Nat} {a:AV} {id:Int} {n:En Nd} (hf:find a.N id=some n) {h s:Nat} (h1:n.q.sp=(h:Int)) (h2:n.q.sl=(s:Int)) {x:Nat×Nat} (hx:a.en h s=some x) :
  weak1 m a id=if less x.2 m=0 then (⟨setA a.en h s none,Q0v a.N n n.q.ks.length⟩,true) else (⟨setA a.en h s (some (x.1,less x.2 m)),a.N⟩,false):=by
 unfold weak1;rw [hf];simp only [h1,h2,J1x,hx]
section
variable {Z:SP} {fr:List Nat} {N K:Nat} {M:Int}
theorem SP.Ok.weakened (ok:Z.Ok fr N K M) {id:Int} {n:En Nd} (hf:find Z.F.N id=some n) {h s:Nat} {p:Pl} {e:Ent} (h1:n.q.sp=(h:Int)) (h2:n.q.sl=(s:Int)) (hp:pget Z.S.l 1 h=some p) (hk:p.kind=2) (hs:s<256) (he:Q0f Z.S.l Z.tb h s=some e) {m:Nat} (hm:m<16) (h0:less e.r m≠0)
  (hd:Q3j m Z.av [] id) {S':CO} {t':TB} (T:TurnP Z.S fr N K Z.tb (p.fac:Int) (h%256) s (some ⟨e.h,less e.r m,e.nd⟩) S' t') :
  (Z.setS S' (updT Z.tb (h%256) t')).Ok fr N K M/\weak1 m Z.av id=((Z.setS S' (updT Z.tb (h%256) t')).av,false)/\SameZ Z (Z.setS S' (updT Z.tb (h%256) t')):=by
 have hr:=(ok.fpi.cap h s e he).r;obtain⟨a1,a2,a3⟩:=Q5f e.r (by omega) m hm;have hl:=T.alt.l;have hav:=Q7t Z.F.N Z.F.N hp hk hs T.en;refine⟨⟨T.ok,T.tpi,?_,ok.fo,ok.next⟩,?_,⟨⟨rfl,T.alt.alt0,rfl⟩,rfl⟩⟩
 ·show FPI S'.l _ Z.F.N;rw [hl];refine ok.fpi.weak ok.fo.n hp hk hs he T.en rfl ⟨by show 1<=less e.r m;omega,by show less e.r m<=15;omega⟩ a2 fun c hc d hd2 e1 e2 x hx=>?_
  -- d is the node itself
  obtain⟨d1,d2⟩:=Q0b hd2;obtain⟨n1,n2⟩:=Q0b hf;have hdn:d=n:=Q3G ok.fo.n d1 n1 (by rw [e1,h1]) (by rw [e2,h2]);subst hdn;obtain⟨q1,q2⟩:=ok.fo.n.par c hc;have hpar:c.q.par=d.id:=d2.symm;obtain⟨pp,p1,p2⟩:=q2 (by have:=ok.fo.n.rng d n1;omega);rw [hd2] at p1;cases p1;have hup:=ok.fpi.up c hc d hd2 x e hx (by
   unfold Q0E;rw [h1,h2,J1x,J1x];exact he)
  have hxr:1<=x.r/\x.r<=15:=by
   obtain⟨ch,cs,cp,ce,c1,c2,c3,c4,c5,c6,c7,c8⟩:=ok.fpi.task ok.fo.n hc;unfold Q0E at hx;rw [c1,c2,J1x,J1x,c8] at hx;cases hx;exact (ok.fpi.cap _ _ _ c8).r
  rcases hd d hf c.id p2 with hz|hz
  ·cases hz
  ·have hm0:=hz c (Q0g ok.fo.n.ids hc) (x.h,x.r) (Q6i hx);exact Z6R x.r (by omega) e.r (by omega) m hm hup.2 hm0
 ·rw [Q2g (a:=Z.av) hf h1 h2 (Q6i he)];simp only;rw [if_neg h0];congr 1;show _=avOf S'.l (updT Z.tb (h%256) t') Z.F.N;rw [hl,hav];rfl
theorem SP.Ok.lifted (ok:Z.Ok fr N K M) {id:Int} {n:En Nd} (hf:find Z.F.N id=some n) {h s:Nat} {p:Pl} {e:Ent} (h1:n.q.sp=(h:Int)) (h2:n.q.sl=(s:Int)) (hp:pget Z.S.l 1 h=some p) (hk:p.kind=2) (hs:s<256) (he:Q0f Z.S.l Z.tb h s=some e) {m:Nat} (h0:less e.r m=0)
  {S':CO} {t':TB} (T:TurnP Z.S fr N K Z.tb (p.fac:Int) (h%256) s none S' t') {F':FO} (hF:F'.N=Q0v Z.F.N n n.q.ks.length) (hFok:F'.Ok) (hFn:F'.next=Z.F.next) (hFf:F'.f=Z.F.f) :
  ((Z.setF F').setS S' (updT Z.tb (h%256) t')).Ok fr N K M/\weak1 m Z.av id=(((Z.setF F').setS S' (updT Z.tb (h%256) t')).av,true)/\SameZ Z ((Z.setF F').setS S' (updT Z.tb (h%256) t')):=by
 have hl:=T.alt.l;have hav:=Q7t Z.F.N F'.N hp hk hs T.en;obtain⟨n1,n2⟩:=Q0b hf;refine⟨⟨T.ok,T.tpi,?_,hFok,by show F'.next<=M;rw [hFn];exact ok.next⟩,?_,⟨⟨rfl,T.alt.alt0,hFf⟩,hFn⟩⟩
 ·show FPI S'.l _ F'.N;rw [hl,hF];exact ok.fpi.lift ok.fo.n hp hk hs T.en (by rw [n2];exact hf) h1 h2
 ·rw [Q2g (a:=Z.av) hf h1 h2 (Q6i he)];simp only;rw [if_pos h0];congr 1;show _=avOf S'.l (updT Z.tb (h%256) t') F'.N;rw [hl,hav,hF];rfl
theorem SP.Ok.added (ok:Z.Ok fr N K M) {h s:Nat} {p:Pl} (hp:pget Z.S.l 1 h=some p) (hk:p.kind=2) (hs:s<256) (h0:Q0f Z.S.l Z.tb h s=none) {e:Ent} (hc:Q8g Z.S.l s e)
  {S':CO} {t':TB} (T:TurnP Z.S fr N K Z.tb (p.fac:Int) (h%256) s (some e) S' t') {par:Int} (hpar:par=0∨∃m em,find Z.F.N par=some m/\Q0E Z.S.l Z.tb m=some em/\e.h=em.h/\e.r&&&em.r=e.r) {F':FO} (A:Z4P Z.F par (h:Int) (s:Int) F') :
  ((Z.setF F').setS S' (updT Z.tb (h%256) t')).Ok fr N K (M+1)/\SameN Z ((Z.setF F').setS S' (updT Z.tb (h%256) t'))/\((Z.setF F').setS S' (updT Z.tb (h%256) t')).av.en=setA Z.av.en h s (some (e.h,e.r))/\∃b,((Z.setF F').setS S' (updT Z.tb (h%256) t')).av.N=addN Z.F.N par (Z.F.next+1) b (h:Int) (s:Int):=by
 have hl:=T.alt.l;obtain⟨b,hN⟩:=A.N;have hav:=Q7t Z.F.N F'.N hp hk hs T.en;have hav2:((Z.setF F').setS S' (updT Z.tb (h%256) t')).av=⟨setA Z.av.en h s ((some e).map Ent.c),F'.N⟩:=by
  show avOf S'.l (updT Z.tb (h%256) t') F'.N=_;rw [hl,hav];rfl
 refine⟨⟨T.ok,T.tpi,?_,A.ok,by show F'.next<=M+1;rw [A.next];have:=ok.next;omega⟩,⟨rfl,T.alt.alt0,A.f⟩,by rw [hav2];rfl,b,by rw [hav2];exact hN⟩;show FPI S'.l _ F'.N;rw [hl,hN];exact ok.fpi.add ok.fo.n hp hk hs h0 T.en hc b hpar
end
theorem Q3l (w:World) (z:Int):Calls prog 75 #[.int .i64 z] w fun r w'=>r=.returned (.bool (decide (0<=z/\z<256)))/\w=w':=by
 by_cases h0:0<=z
 ·by_cases h1:z<256
  ·rw [decide_eq_true (show 0<=z/\z<256 from ⟨h0,h1⟩)];go_enter func75,ntmps75
   go_wp2
   go_ret;exact⟨rfl,rfl⟩
  ·rw [decide_eq_false (show ¬(0<=z/\z<256) from fun h=>h1 h.2)];have hd:decide (z<256)=false:=by simpa using h1
   go_enter func75,ntmps75
   go_wp2
   go_ret;exact⟨rfl,rfl⟩
 ·rw [decide_eq_false (show ¬(0<=z/\z<256) from fun h=>h0 h.1)];have hd:decide (0<=z)=false:=by simpa using h0
  go_enter func75,ntmps75
  go_wp2
  go_ret;exact⟨rfl,rfl⟩
theorem Q3m (w:World) (z:Int):Calls prog 76 #[.int .i64 z] w fun r w'=>r=.returned (.bool (decide (0<z/\z<=15)))/\w=w':=by
 by_cases h0:0<z
 ·by_cases h1:z<=15
  ·rw [decide_eq_true (show 0<z/\z<=15 from ⟨h0,h1⟩)];go_enter func76,ntmps76
   go_wp2
   go_ret;exact⟨rfl,rfl⟩
  ·rw [decide_eq_false (show ¬(0<z/\z<=15) from fun h=>h1 h.2)];have hd:decide (z<=15)=false:=by simpa using h1
   go_enter func76,ntmps76
   go_wp2
   go_ret;exact⟨rfl,rfl⟩
 ·rw [decide_eq_false (show ¬(0<z/\z<=15) from fun h=>h0 h.1)];have hd:decide (0<z)=false:=by simpa using h0
  go_enter func76,ntmps76
  go_wp2
  go_ret;exact⟨rfl,rfl⟩
theorem Q2S (w:World) (z:Int):Calls prog 77 #[.int .i64 z] w fun r w'=>r=.returned (.bool (decide (z<128)))/\w=w':=by
 go_enter func77,ntmps77
 go_wp2
 go_ret;exact⟨rfl,rfl⟩
theorem Z7a (h r:Nat) (hh:h<4294967295) (hr:r<16):bits .or .u64 ((h:Int)+1) ((r:Int)*4294967296)=(((⟨h,r,0⟩:Ent).a:Nat):Int):=by
 have e1:((h:Int)+1)=((h+1:Nat):Int):=by omega
 have e2:((r:Int)*4294967296)=((r*4294967296:Nat):Int):=by omega
 rw [e1,e2,u64_or_nat _ _ (by omega) (by omega)];unfold Ent.a;have:(h+1)|||(r*4294967296)=h+1+4294967296*r:=by
  rw [Nat.or_comm,nat_join 32 (r*4294967296) (h+1) (by omega) (by omega)];omega
 rw [this]
theorem Z8Y (h r:Nat) (hh:h<4294967295) (hr:r<16):bits .and .u64 ((((⟨h,r,0⟩:Ent).a:Nat):Int)) 4294967295=((h+1:Nat):Int):=by
 unfold Ent.a;have:=u64_and_nat (h+1+4294967296*r) 4294967295 (by omega) (by omega);rw [show ((4294967295:Nat):Int)=4294967295 from rfl] at this;rw [show (⟨h,r,0⟩:Ent).h=h from rfl,show (⟨h,r,0⟩:Ent).r=r from rfl,this,J1X _ 32];omega
theorem Z7b (h r:Nat) (hh:h<4294967295):(((⟨h,r,0⟩:Ent).a:Nat):Int)/4294967296=(r:Int):=by
 unfold Ent.a;show ((h+1+4294967296*r:Nat):Int)/4294967296=(r:Int);omega
theorem J0k (e:Ent):e.a=(⟨e.h,e.r,0⟩:Ent).a:=rfl
def capV:Option Ent->Value
 | none=>.tuple #[.agg #[.int .u32 0,.int .i64 0],.bool false]
 | some e=>.tuple #[.agg #[.int .u32 (e.h:Int),.int .i64 (e.r:Int)],.bool true]
def Ent.Low (e:Ent):Prop:=e.h<4294967295/\e.r<16
theorem Q1r {w:World} {S:CO} {t:TB} {p:Pl} {g:Nat} (T:TT S t p g w) (x f z:Int) (hsm:∀e,t.at' z=some e->e.Low) :
  Calls prog 74 #[.agg #[.pointer (some ⟨g,0,none⟩),.int .u32 x,.int .i64 f],.int .i64 z] w (Told w (capV (t.at' z))):=by
 have hb2:Below w.heap.size w ((w.alloc (.cells #[.pointer (some ⟨g,0,none⟩),.int .u32 x,.int .i64 f] 155)).alloc (.cells #[.int .u32 0,.int .i64 0] 35)):=((Below.refl _ _).alloc (J0t _) _).alloc (by simp) _;have kg:=Q4n (T.grown hb2) z;have hA:=(Cells.new w 155 [.pointer (some ⟨g,0,none⟩),.int .u32 x,.int .i64 f]).alloc (.cells #[.int .u32 0,.int .i64 0] 35);have a0:=hA.cell 0 _ rfl;have HE:Hid (∀o,Below w.heap.size w ((w.alloc (.cells #[.pointer (some ⟨g,0,none⟩),.int .u32 x,.int .i64 f] 155)).alloc o)):=fun o=>((Below.refl _ _).alloc (J0t _) _).alloc (by simp) o
 cases ho:t.at' z with
 | none =>
  rw [ho] at kg;unfold getV Q0q Q0P at kg;simp only [capV];clear T hsm ho hA hb2;go_enter func74,ntmps74;go_wp2_with fail;refine kg.mono ?_;rintro r w1 ⟨rfl,rfl⟩;go_wp2_with fail;refine bodyPost_ret (v:=.tuple #[.agg #[.int .u32 0,.int .i64 0],.bool false]) (by simp [results,results74,go_sem]) rfl ⟨rfl,HE.out _⟩
 | some e =>
  obtain⟨l1,l2⟩:=hsm e ho;rw [ho] at kg;simp only [getV,Q0q] at kg;simp only [capV];have h1:=Z8Y e.h e.r l1 l2;have h2:=Z7b e.h e.r l1;have hne:((e.a:Nat):Int)≠0:=by unfold Ent.a;omega
  have hnb:(((e.a:Nat):Int)==0)=false:=by simpa using hne
  rw [<- J0k] at h1 h2;have hx1:(bits .and .u64 ((e.a:Nat):Int) 4294967295-1)%4294967296=(e.h:Int):=by rw [h1];omega
  have hx2:((e.a:Nat):Int)/4294967296=(e.r:Int):=h2;have HX1:=Q0a hx1;have HX2:=Q0a hx2;clear hx1 hx2 h1 h2;have hlt:e.a<18446744073709551616:=by unfold Ent.a;omega
  generalize Q0P (some e)=cb at *
  generalize e.a=ca at *
  generalize e.h=eh at *
  generalize e.r=er at *
  have hcan:(0:Int)<=(ca:Int):=by omega
  clear T hsm ho hA hb2 hne;go_enter func74,ntmps74;go_wp2_with fail;refine kg.mono ?_;rintro r w1 ⟨rfl,rfl⟩;go_wp2_with fail;refine bodyPost_ret (v:=.tuple #[.agg #[.int .u32 eh,.int .i64 er],.bool true]) (by simp [results,results74,go_sem,HX1.out,HX2.out]) rfl ⟨rfl,HE.out _⟩
def TblZ (Z:SP) (p:Pl) (g:Nat) (w:World):Prop:=AsideV Z.hl [ptr Z.S.P.p,.int .i64 (p.fac:Int),.int .i64 (p.at_:Int)] (some ⟨g,0,none⟩) w
theorem SP.keyS {Z:SP} {b:Nat} (h:b∈keys Z.S.hl):b∈keys Z.hl:=(Z.permS.map Prod.fst).mem_iff.2 (by rw [J3S];exact J1n _ h)
theorem TblZ.c {Z:SP} {p:Pl} {g:Nat} {w:World} (h:TblZ Z p g w):TblC Z.S p g w:=fun j v hj=>by
 obtain⟨g',e,hk,hl,hc⟩:=h j v hj;exact⟨g',e,fun x=>hk (SP.keyS x),hl,hc⟩
theorem TblZ.step {Z Z':SP} {p:Pl} {g:Nat} {w w':World} (h:TblZ Z p g w) (st:Step Z.hl Z'.hl w w') (hp:Z'.S.P.p=Z.S.P.p):TblZ Z' p g w':=by
 unfold TblZ;rw [hp];exact AsideV.step h st
theorem TblZ.grown {Z:SP} {p:Pl} {g:Nat} {w w':World} (h:TblZ Z p g w) (hs:Sep w Z.hl) (hb:Below w.heap.size w w'):TblZ Z p g w':=h.step (hs.grown hb) rfl
theorem Q8r {w:World} {Z:SP} {fr:List Nat} {N K:Nat} (h:Sep w Z.hl) (ok:Z.S.Ok fr N K) {x:Nat} (hx:x<4294967296) {p:Pl} (hp:pget Z.S.l 1 x=some p) (hk:p.kind=2) :
  Calls prog 73 #[.pointer (some ⟨Z.s,0,none⟩),.int .u32 x] w fun r w'=>∃g:Nat,r=.returned (.tuple #[.agg #[.pointer (some ⟨g,0,none⟩),.int .u32 x,.int .i64 (p.fac:Int)],.int .i64 0])/\Below w.heap.size w w'/\TblZ Z p g w'/\w.heap.size<=g:=by
 have b1:Below w.heap.size w (w.alloc (.cells #[.pointer none,.int .u32 0,.int .i64 0] 155)):=(Below.refl _ _).alloc (J0t _) _;have s1:=(h.grown b1).sep;have c0:=SP.c0 s1;have hO:Calls prog 30 #[.pointer (some ⟨Z.S.c,0,none⟩),.int .u32 x,.int .i64 2] (w.alloc (.cells #[.pointer none,.int .u32 0,.int .i64 0] 155)) (Told (w.alloc (.cells #[.pointer none,.int .u32 0,.int .i64 0] 155)) (.tuple #[.agg #[.int .i64 (p.kind:Int),.int .i64 (p.at_:Int),.int .i64 (p.fac:Int)],.int .i64 0])):=Q4f (SP.sS s1) ok.inv.lok hx 2 hp (.inr (by omega));have hu:p.at_∈Z.S.P.usedOf 2:=Q1w ok (pget_some.1 hp).1 (pget_some.1 hp).2.2 hk
 have HC:Hid (∀w1,Below (w.alloc (.cells #[.pointer none,.int .u32 0,.int .i64 0] 155)).heap.size (w.alloc (.cells #[.pointer none,.int .u32 0,.int .i64 0] 155)) w1 ->
   ((w1.alloc (.cells #[.int .i64 (p.kind:Int),.int .i64 (p.at_:Int),.int .i64 (p.fac:Int)] 69)).cell? ⟨Z.s,0,none⟩=some (.pointer (some ⟨Z.S.c,0,none⟩))/\(w1.alloc (.cells #[.int .i64 (p.kind:Int),.int .i64 (p.at_:Int),.int .i64 (p.fac:Int)] 69)).cell? ⟨w1.heap.size,1,none⟩=some (.int .i64 (p.at_:Int))/\(w1.alloc (.cells #[.int .i64 (p.kind:Int),.int .i64 (p.at_:Int),.int .i64 (p.fac:Int)] 69)).cell? ⟨w1.heap.size,2,none⟩=some (.int .i64 (p.fac:Int))) /\
   ∀w2,Below (w1.alloc (.cells #[.int .i64 (p.kind:Int),.int .i64 (p.at_:Int),.int .i64 (p.fac:Int)] 69)).heap.size (w1.alloc (.cells #[.int .i64 (p.kind:Int),.int .i64 (p.at_:Int),.int .i64 (p.fac:Int)] 69)) w2 ->
    Calls prog 49 #[.pointer (some ⟨Z.S.c,0,none⟩)] w2 (fun r w'=>r=.returned (.pointer (some ⟨Z.S.P.p,0,none⟩))/\w2=w') /\
    Calls prog 161 #[.pointer (some ⟨Z.S.P.p,0,none⟩),.int .i64 (p.fac:Int),.int .i64 (p.at_:Int)] w2 (fun r w'=>(w'.cell? ⟨Z.s,0,none⟩=some (.pointer (some ⟨Z.S.c,0,none⟩))/\w'.cell? ⟨w1.heap.size,1,none⟩=some (.int .i64 (p.at_:Int))/\w'.cell? ⟨w1.heap.size,2,none⟩=some (.int .i64 (p.fac:Int)))/\∃g:Nat,r=.returned (.pointer (some ⟨g,0,none⟩))/\Cells w' w.heap.size 155 [.pointer none,.int .u32 0,.int .i64 0]/\(∀a b c,(((w'.setCell ⟨w.heap.size,0,none⟩ a).setCell ⟨w.heap.size,1,none⟩ b).setCell ⟨w.heap.size,2,none⟩ c).cell? ⟨Z.s,0,none⟩=some (.pointer (some ⟨Z.S.c,0,none⟩))/\(((w'.setCell ⟨w.heap.size,0,none⟩ a).setCell ⟨w.heap.size,1,none⟩ b).setCell ⟨w.heap.size,2,none⟩ c).cell? ⟨w1.heap.size,1,none⟩=some (.int .i64 (p.at_:Int))/\(((w'.setCell ⟨w.heap.size,0,none⟩ a).setCell ⟨w.heap.size,1,none⟩ b).setCell ⟨w.heap.size,2,none⟩ c).cell? ⟨w1.heap.size,2,none⟩=some (.int .i64 (p.fac:Int)))/\∀a b c,Below w.heap.size w (((w'.setCell ⟨w.heap.size,0,none⟩ a).setCell ⟨w.heap.size,1,none⟩ b).setCell ⟨w.heap.size,2,none⟩ c)/\TblZ Z p g (((w'.setCell ⟨w.heap.size,0,none⟩ a).setCell ⟨w.heap.size,1,none⟩ b).setCell ⟨w.heap.size,2,none⟩ c)/\w.heap.size<=g)):=fun w1 hb1=>by
  have hR:=(Cells.new w 155 [.pointer none,.int .u32 0,.int .i64 0]).same (hb1.block w.heap.size (by simp));have hb1':Below w.heap.size w w1:=Q0e hb1;have hb2':=hb1'.alloc hb1'.size (.cells #[.int .i64 (p.kind:Int),.int .i64 (p.at_:Int),.int .i64 (p.fac:Int)] 69);have hO1:=Cells.new w1 69 [.int .i64 (p.kind:Int),.int .i64 (p.at_:Int),.int .i64 (p.fac:Int)];have hlt1:w.heap.size<w1.heap.size:=by have:=hb1.size;simp at this;omega
  have hR2:=hR.alloc (.cells #[.int .i64 (p.kind:Int),.int .i64 (p.at_:Int),.int .i64 (p.fac:Int)] 69);refine⟨⟨SP.c0 (h.grown hb2').sep,hO1.cell 1 _ rfl,hO1.cell 2 _ rfl⟩,fun w2 hb2=>?_⟩;have hbz:Below w.heap.size w w2:=hb2'.trans (hb2.mono (by simp;omega));have s2:=(h.grown hbz).sep;refine⟨Q1I (SP.sS s2),(Z8X (SP.sS s2) ok hu).mono ?_⟩;rintro r w' ⟨g,rfl,hb3,ht,hg⟩;have hO3:=(hO1.same (hb2.block w1.heap.size (by simp))).same (hb3.block w1.heap.size (by have:=hb2.size;simp at this;omega));have hb4:Below w.heap.size w w':=hbz.trans (hb3.mono hbz.size);have hR3:=(hR2.same (hb2.block w.heap.size (by simp;omega))).same (hb3.block w.heap.size (by have:=hb2.size;simp at this;omega))
  refine⟨⟨SP.c0 (h.grown hb4).sep,hO3.cell 1 _ rfl,hO3.cell 2 _ rfl⟩,g,rfl,hR3,fun a b c=>?_,fun a b c=>?_⟩
  ·have hne2:∀(W:World) (i k j:Nat) (u:Value),k≠w.heap.size->(W.setCell ⟨w.heap.size,i,none⟩ u).cell? ⟨k,j,none⟩=W.cell? ⟨k,j,none⟩:=fun W i k j u hk=>World.cell?_of_block (Below.heap_setCell _ _ _ _ (by simpa using hk))
   have hzs:Z.s≠w.heap.size:=fun hx=>by
    have:=h.lt (b:=Z.s) (by simp [SP.hl,SP.head,keys]);omega
   have hw1:w1.heap.size≠w.heap.size:=by omega
   rw [hne2 _ _ _ _ _ hzs,hne2 _ _ _ _ _ hzs,hne2 _ _ _ _ _ hzs,hne2 _ _ _ _ _ hw1,hne2 _ _ _ _ _ hw1,hne2 _ _ _ _ _ hw1,hne2 _ _ _ _ _ hw1,hne2 _ _ _ _ _ hw1,hne2 _ _ _ _ _ hw1];exact⟨SP.c0 (h.grown hb4).sep,hO3.cell 1 _ rfl,hO3.cell 2 _ rfl⟩
  refine⟨((hb4.setCell (J0t _) _).setCell (J0t _) _).setCell (J0t _) _,fun j v hj=>?_,by have:=hb2.size;simp at this;omega⟩;obtain⟨g',e,_,hl,hc⟩:=ht j v hj;obtain rfl:g=g':=by cases e;rfl
  clear e;have hgl:w.heap.size<g:=by have:=hb2.size;simp at this;omega
  refine⟨g,rfl,fun hk=>?_,by simpa using hl,?_⟩
  ·have:=s2.lt hk;omega
  ·have hne:∀(W:World) (i:Nat) (u:Value),(W.setCell ⟨w.heap.size,i,none⟩ u).cell? ⟨g,j,none⟩=W.cell? ⟨g,j,none⟩:=fun W i u=>World.cell?_of_block (Below.heap_setCell _ _ _ _ (by simp;omega))
   rw [hne,hne,hne];exact hc
 clear h ok hp hu b1 s1;have hk2:((p.kind:Nat):Int)=2:=by omega
 rw [hk2] at hO;simp only [hk2] at HC;clear hk2 hk;generalize p.at_=pa at *
 go_enter func73,ntmps73;go_wp2_with fail;refine hO.mono ?_;rintro r w1 ⟨rfl,hb1⟩;obtain⟨⟨c1,c2,c3⟩,hcc⟩:=HC.out w1 hb1;have HCC:=Q0a hcc;have d1:(w1.alloc (.cells #[.int .i64 2,.int .i64 pa,.int .i64 (p.fac:Int)] 69)).drew.cell? ⟨Z.s,0,none⟩=some (.pointer (some ⟨Z.S.c,0,none⟩)):=c1;have d2:(w1.alloc (.cells #[.int .i64 2,.int .i64 pa,.int .i64 (p.fac:Int)] 69)).drew.cell? ⟨w1.heap.size,1,none⟩=some (.int .i64 pa):=c2;have d3:(w1.alloc (.cells #[.int .i64 2,.int .i64 pa,.int .i64 (p.fac:Int)] 69)).drew.cell? ⟨w1.heap.size,2,none⟩=some (.int .i64 (p.fac:Int)):=c3;clear hb1 hcc HC hO;go_wp2_with fail
 have kmem:=(HCC.out _ ((Below.refl _ _).drew)).1;have kat:=(HCC.out _ ((Below.refl _ _).drew)).2;have HAt:=Q0a kat;clear kat HCC
 go_region_held3 (fun w'=>w'.cell? ⟨Z.s,0,none⟩=some (.pointer (some ⟨Z.S.c,0,none⟩))/\w'.cell? ⟨w1.heap.size,1,none⟩=some (.int .i64 pa)/\w'.cell? ⟨w1.heap.size,2,none⟩=some (.int .i64 (p.fac:Int))) (first|exact⟨c1,c2,c3⟩|exact⟨d1,d2,d3⟩|exact hcell|exact hcell2 _ _ _)
  (first|(go_at_call 49;refine kmem.mono ?_;rintro r w' ⟨rfl,rfl⟩)|(go_at_call 161;refine HAt.out.mono ?_;rintro r w3 ⟨hcell,g,rfl,hres,hcell2,hz⟩;have HZ:=Q0a hz;have e0:=hres.cell 0 _ rfl;have e1:=hres.cell 1 _ rfl;have e2:=hres.cell 2 _ rfl;have f0:=hres.free 0;have f1:=hres.free 1;have f2:=hres.free 2;have hlt:=hres.lt;clear hz hres HAt))
 go_wp2_with fail;refine bodyPost_ret (v:=.tuple #[.agg #[.pointer (some ⟨g,0,none⟩),.int .u32 x,.int .i64 (p.fac:Int)],.int .i64 0]) (by simp [results,results73,go_sem,e0,e1,e2]) rfl ⟨g,rfl,HZ.out _ _ _⟩
theorem Q0X {w:World} {Z:SP} {fr:List Nat} {N K:Nat} (h:Sep w Z.hl) (ok:Z.S.Ok fr N K) {x:Nat} (hx:x<4294967296) {p:Pl} (hp:pget Z.S.l 1 x=some p) (hk:p.kind=2) :
  Calls prog 73 #[.pointer (some ⟨Z.s,0,none⟩),.int .u32 x] w fun r w'=>∃g:Nat,r=.returned (.tuple #[.agg #[.pointer (some ⟨g,0,none⟩),.int .u32 x,.int .i64 (p.fac:Int)],.int .i64 0])/\Below w.heap.size w w'/\TblZ Z p g w':=
 (Q8r h ok hx hp hk).mono fun r w' ⟨g,h1,h2,h3,_⟩=>⟨g,h1,h2,h3⟩
theorem Q6P {w:World} {Z:SP} (h:Sep w Z.hl) {x:Nat} {e:Int} (he:e≠0) (hO:Calls prog 30 #[.pointer (some ⟨Z.S.c,0,none⟩),.int .u32 x,.int .i64 2] (w.alloc (.cells #[.pointer none,.int .u32 0,.int .i64 0] 155)) (Told (w.alloc (.cells #[.pointer none,.int .u32 0,.int .i64 0] 155)) (.tuple #[.agg #[.int .i64 0,.int .i64 0,.int .i64 0],.int .i64 e]))) :
  Calls prog 73 #[.pointer (some ⟨Z.s,0,none⟩),.int .u32 x] w (Told w (.tuple #[.agg #[.pointer none,.int .u32 0,.int .i64 0],.int .i64 e])):=by
 have b1:Below w.heap.size w (w.alloc (.cells #[.pointer none,.int .u32 0,.int .i64 0] 155)):=(Below.refl _ _).alloc (J0t _) _;have c0:=SP.c0 (h.grown b1).sep;have hnb:(e==0)=false:=by simpa using he
 have HC:Hid (∀w1,Below (w.alloc (.cells #[.pointer none,.int .u32 0,.int .i64 0] 155)).heap.size (w.alloc (.cells #[.pointer none,.int .u32 0,.int .i64 0] 155)) w1->(∀o,Cells (w1.alloc o) w.heap.size 155 [.pointer none,.int .u32 0,.int .i64 0])/\∀o a b c,Below w.heap.size w ((((w1.alloc o).setCell ⟨w.heap.size,0,none⟩ a).setCell ⟨w.heap.size,1,none⟩ b).setCell ⟨w.heap.size,2,none⟩ c)):=fun w1 hb1=>by
  have hR:=(Cells.new w 155 [.pointer none,.int .u32 0,.int .i64 0]).same (hb1.block w.heap.size (by simp));exact⟨hR.alloc,fun o a b c=>((((Q0e hb1).alloc (Q0e hb1).size o).setCell (J0t _) _).setCell (J0t _) _).setCell (J0t _) _⟩
 clear h b1;go_enter func73,ntmps73;go_wp2_with fail;refine hO.mono ?_;rintro r w1 ⟨rfl,hb1⟩;obtain⟨hres0,hz⟩:=HC.out w1 hb1;have hres:=hres0 (.cells #[.int .i64 0,.int .i64 0,.int .i64 0] 69);have HZ:=Q0a hz;have e0:=hres.cell 0 _ rfl;have e1:=hres.cell 1 _ rfl;have e2:=hres.cell 2 _ rfl;have f0:=hres.free 0;have f1:=hres.free 1;have f2:=hres.free 2;have hlt:=hres.lt;clear hb1 hz hres hres0 HC hO;go_wp2_with fail;refine bodyPost_ret (v:=.tuple #[.agg #[.pointer none,.int .u32 0,.int .i64 0],.int .i64 e]) (by simp [results,results73,go_sem,e0,e1,e2]) rfl ⟨rfl,HZ.out _ _ _ _⟩
theorem Q0K {w:World} {Z:SP} {fr:List Nat} {N K:Nat} (h:Sep w Z.hl) (ok:Z.S.Ok fr N K) {x:Nat} (hx:x<4294967296) (e:Int) (hw:(pget Z.S.l 1 x=none/\e=8)∨∃p,pget Z.S.l 1 x=some p/\p.kind≠2/\e=10) :
  Calls prog 73 #[.pointer (some ⟨Z.s,0,none⟩),.int .u32 x] w (Told w (.tuple #[.agg #[.pointer none,.int .u32 0,.int .i64 0],.int .i64 e])):=by
 have s1:=(h.grown ((Below.refl w.heap.size w).alloc (J0t _) (.cells #[.pointer none,.int .u32 0,.int .i64 0] 155))).sep;rcases hw with ⟨hp,rfl⟩|⟨p,hp,hk,rfl⟩
 ·exact Q6P h (by decide) (Q4e (SP.sS s1) ok.inv.lok hx 2 hp)
 ·exact Q6P h (by decide) (Q5y (SP.sS s1) ok.inv.lok hx 2 hp (by decide) (by omega))
structure FO.New (q:FO):Prop where
 N:q.N=[]
 next:q.next=0
 ok:q.Ok
theorem Z7c {w:World} {H:HL} (h:Sep w H):Calls prog 72 #[] w fun r w'=>∃q:FO,r=.returned (.pointer (some ⟨q.f,0,none⟩))/\q.New/\Step H (q.hl++H) w w':=by
 have s1:=h.newMap;have s2:=s1.sep.newMap;have s3:=s2.sep.new 282 [.map (some w.heap.size),.map (some (w.alloc (.map #[] 0)).heap.size),.int .i64 0];have HQ:Hid (∃q:FO,q.f=((w.alloc (.map #[] 0)).alloc (.map #[] 0)).heap.size/\q.New/\Step H (q.hl++H) w (((w.alloc (.map #[] 0)).alloc (.map #[] 0)).alloc (.cells #[.map (some w.heap.size),.map (some (w.alloc (.map #[] 0)).heap.size),.int .i64 0] 282))):=by
  refine⟨⟨((w.alloc (.map #[] 0)).alloc (.map #[] 0)).heap.size,w.heap.size,(w.alloc (.map #[] 0)).heap.size,[],0,fun _=>none⟩,rfl,⟨rfl,rfl,⟨⟨List.Pairwise.nil,List.Pairwise.nil,J4r _,fun e h=>(by cases h),fun e h=>(by cases h),fun e h=>(by cases h),fun e h=>(by cases h),fun e h=>(by cases h),fun e h=>(by cases h)⟩,(by show (0:Int)<1099511627776;decide),fun e h=>(by cases h),J2u _⟩⟩,?_⟩;refine ((s1.trans s2).trans s3).perm (J3K _) ?_;refine Q0V fun a=>?_
  simp only [FO.hl,FO.head,hc_append,hc_cons,kvs,okv,isMI,isMS,J2Y,J4p];simp only [Z9E];omega
 clear h s1 s2 s3;have hz1:(w.alloc (.map #[] 0)).heap.size=w.heap.size+1:=by simp
 have hz2:((w.alloc (.map #[] 0)).alloc (.map #[] 0)).heap.size=w.heap.size+1+1:=by simp
 rw [hz1,hz2] at HQ;have hmm:=@run_makeMap prog;go_enter func72,ntmps72;go_wp2_with fail;obtain⟨q,e,h1,h2⟩:=HQ.out;have e2:Ending.returned (.pointer (some ⟨w.heap.size+1+1,0,none⟩))=Ending.returned (.pointer (some ⟨q.f,0,none⟩)):=by rw [e]
 first|exact⟨q,e2,h1,h2⟩|(go_ret;exact⟨q,e2,h1,h2⟩)
structure SP.New (Z:SP) (S:CO) (tb:Nat->TB):Prop where
 S:Z.S=S
 tb:Z.tb=tb
 F:Z.F.New
theorem Z0N {w:World} {S:CO} (h:Sep w S.hl) (tb:Nat->TB):Calls prog 17 #[.pointer (some ⟨S.c,0,none⟩)] w fun r w'=>∃Z:SP,r=.returned (.pointer (some ⟨Z.s,0,none⟩))/\Z.New S tb/\Step S.hl Z.hl w w':=by
 have kf:=Z7c h;have HQ:Hid (∀(q:FO) (w1:World),q.New->Step S.hl (q.hl++S.hl) w w1->∃Z:SP,Z.s=w1.heap.size/\Z.New S tb/\Step S.hl Z.hl w (w1.alloc (.cells #[.pointer (some ⟨S.c,0,none⟩),.pointer (some ⟨q.f,0,none⟩)] 152))):=fun q w1 hq st=>by
  refine⟨⟨w1.heap.size,S,tb,q⟩,rfl,⟨rfl,rfl,hq⟩,?_⟩;refine (st.trans (st.sep.new 152 [ptr S.c,ptr q.f])).perm (J3K _) ?_;refine Q0V fun a=>?_
  simp only [SP.hl,SP.head,hc_append,hc_cons];omega
 clear h;go_enter func17,ntmps17;go_wp2_with fail;refine kf.mono ?_;rintro r w1 ⟨q,rfl,hq,st⟩;obtain⟨Z,e,h1,h2⟩:=HQ.out q w1 hq st;have HZ:Hid (Z.New S tb/\Step S.hl Z.hl w (w1.alloc (.cells #[.pointer (some ⟨S.c,0,none⟩),.pointer (some ⟨q.f,0,none⟩)] 152))):=⟨h1,h2⟩
 clear hq st h1 h2 HQ kf;go_wp2_with fail;have e2:Ending.returned (.pointer (some ⟨w1.heap.size,0,none⟩))=Ending.returned (.pointer (some ⟨Z.s,0,none⟩)):=by rw [e]
 first|exact⟨Z,e2,HZ.out.1,HZ.out.2⟩|(go_ret;exact⟨Z,e2,HZ.out.1,HZ.out.2⟩)
theorem SP.New.ok {Z:SP} {S:CO} {tb:Nat->TB} (h:Z.New S tb) {fr:List Nat} {N K:Nat} (ok:S.Ok fr N K) (t:TPI S tb) (hn:∀i,i<256->(tb i).Nil):Z.Ok fr N K 0:=by
 have hnone:∀x s,Q0f S.l tb x s=none:=fun x s=>by
  unfold Q0f;split
  ·split
   ·rename_i hc;exact (hn _ (J3x _ (by omega))).2 s hc.2
   ·rfl
  ·rfl
 refine⟨by rw [h.S];exact ok,by rw [h.S,h.tb];exact t,?_,h.F.ok,by rw [h.F.next];exact J4r _⟩;rw [h.S,h.tb,h.F.N];exact⟨fun x s e he=>(by rw [hnone] at he;cases he),fun x s e he=>(by rw [hnone] at he;cases he),fun n hn=>(by cases hn),fun n hn=>by cases hn⟩
theorem TPI.emp {S:CO} {fr:List Nat} {N K:Nat} (ok:S.Ok fr N K) (h2:∀(i:Nat) (p:Pl),S.l[i]?=some p->¬(p.st=1/\p.kind=2)) (h7:S.P.usedOf 7=[]) (h6:S.P.usedOf 6=[]) (hx:∀id,S.xc id=0):TPI S fun _=>TB.emp:=by
 have l0:Q2L (fun _=>TB.emp)=[]:=by
  unfold Q2L;simp only [TB.emp_nil.lists.1];generalize List.range 256=L
  induction L with
  | nil=>rfl
  | cons a r ih=>rw [J0Q,ih];rfl
 have n0:Q3F (fun _=>TB.emp)=[]:=by
  unfold Q3F;simp only [TB.emp_nil.lists.2.1];generalize List.range 256=L
  induction L with
  | nil=>rfl
  | cons a r ih=>rw [J0Q,ih];rfl
 refine⟨fun i p hi h1 hk=>absurd ⟨h1,hk⟩ (h2 i p hi),fun i _=>TB.emp_nil.full,fun i p _ _=>TB.emp_nil,by rw [l0,h7],by rw [n0,h6],fun id=>?_⟩;rw [hx];unfold xcOf;have:∀i,xcP (fun _=>TB.emp) id i S.l[i]?=0:=fun i=>by
  unfold xcP;split
  ·split
   ·exact TB.emp_nil.lists.2.2
   ·rfl
  ·rfl
 simp only [this];generalize List.range 256=L
 induction L with
 | nil=>rfl
 | cons a r ih=>rw [J0w,J4b];omega
def Z8Z (Z:SP) (fr:List Nat) (N K:Nat) (own:Int) (i s:Nat) (o:Option Ent) (w w':World):Prop:=∃S' t',TurnP Z.S fr N K Z.tb own i s o S' t'/\Step Z.hl (Z.setS S' (updT Z.tb i t')).hl w w'
def WhyL (Z:SP) (fr:List Nat) (own:Int) (i s:Nat) (er:Int):Prop:=
 (er=5/\∃e,find Z.S.P.q.E own=some e/\Q0t e<48)∨(er=4/\NoRoom Z.S.P 6) ∨
 ∃a P1,GetOk Z.S.P fr own 6 a P1/\(Z.tb i).lf (s/16)=0/\((er=5/\∃e,find P1.q.E own=some e/\Q0t e<256)∨(er=4/\NoRoom P1 7))
def LayR (Z:SP) (fr:List Nat) (N K:Nat) (own:Int) (i s h r:Nat) (w:World) (er:Int) (w':World):Prop:=
 (er=0/\∃nd,Z8Z Z fr N K own i s (some ⟨h,r,nd⟩) w w')∨((er=4∨er=5)/\WhyL Z fr own i s er/\∃P',Tried Z.S.P fr Z.S.l P'/\Step Z.hl (Z.setS (Z.S.setP P') Z.tb).hl w w')
theorem Z0O {S:CO} {fr:List Nat} {N K:Nat} {tb:Nat->TB} {own:Int} {xl xn xn':List Nat} (ok:S.Ok fr N K) (t:TPX S tb own xl xn) {i s:Nat} {p:Pl} (hi:S.l[i]?=some p) (h1:p.st=1) (h2:p.kind=2) (hown:(p.fac:Int)=own) (hs:s<256) {e:Ent} (hn:(xn'++((tb i).setE s (some e)).nds).Perm (xn++(tb i).nds))
  (hA:Q0q (some e)<18446744073709551616) (hB:Q0P (some e)<18446744073709551616) {w:World} {g:Nat} (hsep:Sep w S.hl) (hg:TblC S p g w) :
  Calls prog 104 #[.pointer (some ⟨g,0,none⟩),.int .i64 s,.int .u64 (Q0q (some e):Nat),.int .u64 (Q0P (some e):Nat)] w (SetR S fr N K tb own xl xn' i s (some e) w):=by
 by_cases hl:(tb i).lf (s/16)=0
 ·obtain⟨ac,hac⟩:=Q8m ok hi h1;rw [hown] at hac;exact Z6U ok t hi h1 h2 hown hs hl hac hn hA hB hsep hg
 ·exact Z6T ok t hi h1 h2 hown hs hl hn hA hB hsep hg
theorem Put1.turn {S:CO} {fr:List Nat} {N K:Nat} {tb:Nat->TB} {own:Int} {i s:Nat} {o:Option Ent} {w w':World} (h:Put1 S fr N K tb own [] [] i s o w w') (hf:∀j,j<256->(tb j).Full):Z9N S fr N K tb own i s o w w':=by
 obtain⟨S',t',ok,t,en,full,lf,al,st⟩:=h;refine⟨S',t',⟨ok,t.done fun j hj=>?_,en,lf,al⟩,st⟩;by_cases e:j=i
 ·subst e;rw [updT_same];exact full (hf j hj)
 ·rw [Q0Q e];exact hf j hj
theorem TurnP.after {S S1:CO} {fr:List Nat} {N K:Nat} {tb:Nat->TB} {own:Int} {i s:Nat} {o:Option Ent} {S':CO} {t':TB} (al:Alt S S1 own) (h:TurnP S1 fr N K tb own i s o S' t'):TurnP S fr N K tb own i s o S' t':=⟨h.ok,h.tpi,h.en,h.lf,al.trans h.alt⟩
structure BoxL (Z:SP) (g x f h r B:Nat) (w:World):Prop where
 x:AsideV Z.hl [.pointer (some ⟨g,0,none⟩),.int .u32 x,.int .i64 f] (some ⟨B,0,none⟩) w
 c:AsideV Z.hl [.int .u32 h,.int .i64 r] (some ⟨B+1,0,none⟩) w
theorem BoxL.step {Z Z':SP} {g x f h r B:Nat} {w w':World} (b:BoxL Z g x f h r B w) (st:Step Z.hl Z'.hl w w'):BoxL Z' g x f h r B w':=⟨b.x.step st,b.c.step st⟩
theorem AsideV.at {H:HL} {cs:List Value} {b:Nat} {w:World} (h:AsideV H cs (some ⟨b,0,none⟩) w) (j:Nat) (v:Value) (hj:cs[j]?=some v):w.cell? ⟨b,j,none⟩=some v:=by
 obtain⟨g,e,_,_,hc⟩:=h j v hj;cases e;exact hc
def HeldL (Z:SP) (g f h r B:Nat) (w':World):Prop:=w'.cell? ⟨Z.s,0,none⟩=some (.pointer (some ⟨Z.S.c,0,none⟩))/\w'.cell? ⟨B,0,none⟩=some (.pointer (some ⟨g,0,none⟩))/\w'.cell? ⟨B,2,none⟩=some (.int .i64 f)/\w'.cell? ⟨B+1,0,none⟩=some (.int .u32 h)/\w'.cell? ⟨B+1,1,none⟩=some (.int .i64 r)
theorem BoxL.held {Z:SP} {g x f h r B:Nat} {w:World} (b:BoxL Z g x f h r B w) (hs:Sep w Z.hl):HeldL Z g f h r B w:=⟨SP.c0 hs,b.x.at 0 _ rfl,b.x.at 2 _ rfl,b.c.at 0 _ rfl,b.c.at 1 _ rfl⟩
theorem HeldL.grown {Z:SP} {g f h r B:Nat} {w w':World} (b:HeldL Z g f h r B w) (hb:Below w.heap.size w w'):HeldL Z g f h r B w':=by
 obtain⟨a1,a2,a3,a4,a5⟩:=b;have k:∀{p:Addr} {v:Value},w.cell? p=some v->w'.cell? p=some v:=fun {p v} e=>(hb.cell (World.block_lt_of_cell? w p e)).trans e
 exact⟨k a1,k a2,k a3,k a4,k a5⟩
theorem Z4Q {w w1:World} {Z:SP} {fr:List Nat} {N K:Nat} (hs:Sep w Z.hl) (hb:Below w.heap.size w w1) (ok:Z.S.Ok fr N K) (t:TPI Z.S Z.tb) {i s x g B h r:Nat} {p:Pl} (hi:Z.S.l[i]?=some p) (h1:p.st=1) (h2:p.kind=2) (hs2:s<256) (h0:(Z.tb i).en s=none) (hh:h<4294967295) (hr:r<16)
  (hg:TblZ Z p g w1) (hbx:BoxL Z g x p.fac h r B w1) :
  Calls prog 65 #[.pointer (some ⟨Z.S.P.p,0,none⟩),.int .i64 (p.fac:Int),.int .i64 6] w1 fun rv w2=>HeldL Z g p.fac h r B w2/\∃a er:Int,rv=.returned (.tuple #[.int .i64 a,.int .i64 er]) /\
   (((er=4∨er=5)/\LayR Z fr N K p.fac i s h r w er w2) ∨
    ∃A:Nat,a=(A:Int)/\er=0/\A<=1073741824/\∀w3,Below w2.heap.size w2 w3 ->
    Calls prog 104 #[.pointer (some ⟨g,0,none⟩),.int .i64 s,.int .u64 ((⟨h,r,0⟩:Ent).a:Nat),.int .u64 A] w3 fun rv w4=>HeldL Z g p.fac h r B w4/\∃er:Int,rv=.returned (.int .i64 er) /\
     ((er=0/\LayR Z fr N K p.fac i s h r w 0 w4)∨((er=4∨er=5)/\∀w5,Below w4.heap.size w4 w5 ->
      Calls prog 49 #[.pointer (some ⟨Z.S.c,0,none⟩)] w5 (fun r w'=>r=.returned (.pointer (some ⟨Z.S.P.p,0,none⟩))/\w5=w') /\
      Calls prog 159 #[.pointer (some ⟨Z.S.P.p,0,none⟩),.int .i64 (p.fac:Int),.int .i64 6,.int .i64 A] w5 fun rv w6=>rv=.returned (.int .i64 0)/\HeldL Z g p.fac h r B w6/\LayR Z fr N K p.fac i s h r w er w6))):=by
 have s1:=(hs.grown hb).sep;have hc6:Q0Y 6=48:=costs_67.1;have hown':∃q∈Z.S.l,q.st=1/\(q.fac:Int)=(p.fac:Int):=⟨p,J2G hi,h1,rfl⟩
 have hi256:=Q1A ok.inv.len hi;refine (Q5b (CO.sP (SP.sS s1)) ok.inv.mem.pool (p.fac:Int) 6).mono ?_;rintro rv w2 hgp;have zstep:∀{P':PL},P'.p=Z.S.P.p->Step Z.S.P.hl P'.hl w1 w2->Step Z.hl (Z.setS (Z.S.setP P') Z.tb).hl w w2:=fun {P'} e st=>(hs.grown hb).trans (SP.stepS s1 _ _ rfl (CO.stepP (SP.sS s1) P' e st))
 rcases hgp with ⟨h0',_⟩|⟨_,hno,_⟩|⟨_,⟨e,he,hlow⟩,rfl,st⟩|⟨n,ac,hk,h1n,h7n,hac,hpay,hrr⟩
 ·rw [hc6] at h0';omega
 ·obtain⟨e,he⟩:=Q8m ok hi h1;rw [hno] at he;cases he
 ·have st':=zstep rfl st;refine⟨(hbx.step (SP.stepS s1 _ _ rfl (CO.stepP (SP.sS s1) Z.S.P rfl st))).held st'.sep,0,5,rfl,.inl ⟨.inr rfl,.inr ⟨.inr rfl,.inl ⟨rfl,e,he,?_⟩,Z.S.P,Tried.refl ok.inv.mem.pool _,st'⟩⟩⟩;rw [hc6] at hlow;exact hlow
 ·obtain rfl:n=6:=by omega
  rcases hrr with ⟨A,P1,rfl,g6,st⟩|⟨hno,rfl,st⟩
  ·have hst1:Step Z.hl (Z.setS (Z.S.setP P1) Z.tb).hl w w2:=zstep g6.p st;obtain⟨ok1,t1⟩:=TPX.got ok (t.x (p.fac:Int)) (.inl rfl) g6 hown';rw [if_neg (by decide),if_pos rfl] at t1;have al1:=Alt.got ok g6;have st1:Step Z.hl (Z.setS (Z.S.paid P1 (p.fac:Int) ((Q0c 6:Nat):Int)) Z.tb).hl w w2:=hst1;have hAu:A∈P1.usedOf 6:=by
    obtain⟨X,Y,_,e2⟩:=g6.used;rw [e2];simp
   have hAm:=Q0l ok1.inv.mem.pool hAu;have hbm:=Q0n ok1.inv.mem.pool;have hAm1:A+Q0c 6<=P1.a.mem.length:=hAm.1;have hbm1:P1.a.mem.length<=1073741824:=hbm;have hbx1:BoxL (Z.setS (Z.S.paid P1 (p.fac:Int) ((Q0c 6:Nat):Int)) Z.tb) g x p.fac h r B w2:=hbx.step (Z':=Z.setS (Z.S.paid P1 (p.fac:Int) ((Q0c 6:Nat):Int)) Z.tb) (SP.stepS s1 _ _ rfl (CO.stepP (SP.sS s1) P1 g6.p st));have hg1:TblZ (Z.setS (Z.S.paid P1 (p.fac:Int) ((Q0c 6:Nat):Int)) Z.tb) p g w2:=hg.step (Z':=Z.setS (Z.S.paid P1 (p.fac:Int) ((Q0c 6:Nat):Int)) Z.tb) (SP.stepS s1 _ _ rfl (CO.stepP (SP.sS s1) P1 g6.p st)) g6.p;refine⟨hbx1.held st1.sep,(A:Int),0,rfl,.inr ⟨A,rfl,rfl,by omega,fun w3 hb3=>?_⟩⟩
   have st3:=st1.trans (st1.sep.grown hb3);have hg3:=(hg1.grown st1.sep hb3).c;have hbx3:=hbx1.step (st1.sep.grown hb3);have hperm:([]++((Z.tb i).setE s (some ⟨h,r,A⟩)).nds).Perm ([A]++(Z.tb i).nds):=TB.nds_set hs2 (e:=⟨h,r,A⟩) h0;have hAlt:Q0q (some (⟨h,r,A⟩:Ent))<18446744073709551616:=by
    show h+1+4294967296*r<_;omega
   refine (Z0O ok1 t1 (show (Z.S.paid P1 (p.fac:Int) ((Q0c 6:Nat):Int)).l[i]?=some p from hi) h1 h2 rfl hs2 hperm hAlt (by show A<_;omega) (SP.sS st3.sep) hg3).mono ?_;rintro rv w4 (⟨rfl,hput⟩|⟨hlf,st,hwhy⟩)
   ·obtain⟨S',t',T,stt⟩:=hput.turn t.full;have T0:=T.after al1;have stz:Step Z.hl (Z.setS S' (updT Z.tb i t')).hl w w4:=st3.trans (SP.stepS st3.sep S' (updT Z.tb i t') (T.alt.c) stt);refine⟨?_,0,rfl,.inl ⟨rfl,.inl ⟨rfl,A,S',t',T0,stz⟩⟩⟩;have hb4:=hbx3.step (SP.stepS st3.sep S' (updT Z.tb i t') T.alt.c stt);have:=hb4.held stz.sep;exact⟨by rw [<- T0.alt.c];exact this.1,this.2⟩
   ·have st4:Step Z.hl (Z.setS (Z.S.paid P1 (p.fac:Int) ((Q0c 6:Nat):Int)) Z.tb).hl w w4:=st3.trans (SP.stepS st3.sep _ _ rfl st);have hbx4:=hbx3.step (SP.stepS st3.sep (Z.S.paid P1 (p.fac:Int) ((Q0c 6:Nat):Int)) Z.tb rfl st);have hres:∃er:Int,rv=.returned (.int .i64 er)/\(er=4∨er=5)/\WhyL Z fr p.fac i s er:=by
     rcases hwhy with ⟨hno,rfl⟩|⟨⟨e,he,hlow⟩,rfl⟩
     ·exact⟨4,rfl,.inl rfl,.inr (.inr ⟨A,P1,g6,hlf,.inr ⟨rfl,hno⟩⟩)⟩
     ·exact⟨5,rfl,.inr rfl,.inr (.inr ⟨A,P1,g6,hlf,.inl ⟨rfl,e,he,hlow⟩⟩)⟩
    obtain⟨er,rfl,her,hw⟩:=hres;refine⟨hbx4.held st4.sep,er,rfl,.inr ⟨her,fun w5 hb5=>?_⟩⟩;have st5:=st4.trans (st4.sep.grown hb5);have hbx5:=hbx4.step (st4.sep.grown hb5);have km:=Q1I (SP.sS st5.sep);have hpp:(Z.S.paid P1 (p.fac:Int) ((Q0c 6:Nat):Int)).P.p=Z.S.P.p:=g6.p;refine⟨?_,?_⟩
    ·have:=km;rw [show ((Z.setS (Z.S.paid P1 (p.fac:Int) ((Q0c 6:Nat):Int)) Z.tb).S.P.p)=Z.S.P.p from g6.p] at this;exact this
    obtain⟨ac1,hac1⟩:=Q8m ok1 (show (Z.S.paid P1 (p.fac:Int) ((Q0c 6:Nat):Int)).l[i]?=some p from hi) h1;have hpd:=t1.paid ok1 hac1;rw [J2R,J4o] at hpd;obtain⟨c,hc⟩:=PL.cls ok1.inv.mem.pool (by omega:1<=6) (by omega);have kp:=Q3V (CO.sP (SP.sS st5.sep)) ok1.inv.mem.pool (p.fac:Int) hac1 6 (by rw [Q4F];omega) c hc A (by rw [<- Q0O hc];exact hAu) (by omega);rw [show ((Z.setS (Z.S.paid P1 (p.fac:Int) ((Q0c 6:Nat):Int)) Z.tb).S.P.p)=Z.S.P.p from g6.p] at kp;refine kp.mono ?_;rintro rv w6 ⟨rfl,P2,b6,stp⟩;have tr:Tried Z.S.P fr Z.S.l P2:=(g6.gotM ok.inv.mem.pool).back ok.inv.mem (b6.backM ok1.inv.mem.pool)
    have stz:Step Z.hl (Z.setS (Z.S.setP P2) Z.tb).hl w w6:=st5.trans (SP.stepS st5.sep _ _ rfl (CO.stepP (SP.sS st5.sep) P2 b6.p stp));have hbx6:=hbx5.step (Z':=Z.setS (Z.S.setP P2) Z.tb) (SP.stepS st5.sep _ _ rfl (CO.stepP (SP.sS st5.sep) P2 b6.p stp));exact⟨rfl,hbx6.held stz.sep,.inr ⟨her,hw,P2,tr,stz⟩⟩
  ·have st':=zstep rfl st;exact⟨(hbx.step (SP.stepS s1 _ _ rfl (CO.stepP (SP.sS s1) Z.S.P rfl st))).held st'.sep,0,4,rfl,.inl ⟨.inl rfl,.inr ⟨.inl rfl,.inr (.inl ⟨rfl,hno⟩),Z.S.P,Tried.refl ok.inv.mem.pool _,st'⟩⟩⟩
theorem Q8s (w:World) (h r:Nat) (hh:h<4294967295) (hr:r<16):Calls prog 105 #[.agg #[.int .u32 h,.int .i64 r]] w (Told w (.int .u64 ((⟨h,r,0⟩:Ent).a:Nat))):=by
 have hn:=Z7a h r hh hr;have hA:=Cells.new w 35 [.int .u32 h,.int .i64 r];have a0:=hA.cell 0 _ rfl;have a1:=hA.cell 1 _ rfl;have hb:Below w.heap.size w (w.alloc (.cells #[.int .u32 h,.int .i64 r] 35)):=(Below.refl _ _).alloc (J0t _) _;have HB:=Q0a hb;have hh1:(0:Int)<=(h:Int)/\(h:Int)<4294967295:=by omega
 have hr1:(0:Int)<=(r:Int)/\(r:Int)<16:=by omega
 obtain⟨q1,q2⟩:=hh1;obtain⟨q3,q4⟩:=hr1;generalize ((⟨h,r,0⟩:Ent).a:Nat)=z at *
 clear hA hb hh hr;go_enter func105,ntmps105;go_wp2_with fail
 first|exact⟨rfl,HB.out⟩|(go_ret;exact⟨rfl,HB.out⟩)
theorem Z0P {w:World} {Z:SP} {fr:List Nat} {N K:Nat} (hs:Sep w Z.hl) (ok:Z.S.Ok fr N K) (t:TPI Z.S Z.tb) {i s x g h r:Nat} {p:Pl} (hi:Z.S.l[i]?=some p) (h1:p.st=1) (h2:p.kind=2) (hs2:s<256) (h0:(Z.tb i).en s=none) (hh:h<4294967295) (hr:r<16) (hg:TblZ Z p g w) :
  Calls prog 78 #[.pointer (some ⟨Z.s,0,none⟩),.agg #[.pointer (some ⟨g,0,none⟩),.int .u32 x,.int .i64 (p.fac:Int)],.int .i64 s,.agg #[.int .u32 h,.int .i64 r]] w fun rv w'=>∃er:Int,rv=.returned (.int .i64 er)/\LayR Z fr N K p.fac i s h r w er w':=by
 have hb:Below w.heap.size w ((w.alloc (.cells #[.pointer (some ⟨g,0,none⟩),.int .u32 x,.int .i64 (p.fac:Int)] 155)).alloc (.cells #[.int .u32 h,.int .i64 r] 35)):=((Below.refl _ _).alloc (J0t _) _).alloc (by simp) _;have hbx:BoxL Z g x p.fac h r w.heap.size ((w.alloc (.cells #[.pointer (some ⟨g,0,none⟩),.int .u32 x,.int .i64 (p.fac:Int)] 155)).alloc (.cells #[.int .u32 h,.int .i64 r] 35)):=by
  refine⟨fun j v hj=>⟨w.heap.size,rfl,fun hk=>by have:=hs.lt hk;omega,by simp;omega,?_⟩,fun j v hj=>⟨w.heap.size+1,rfl,fun hk=>by have:=hs.lt hk;omega,by simp,?_⟩⟩
  ·exact ((Cells.new w 155 [.pointer (some ⟨g,0,none⟩),.int .u32 x,.int .i64 (p.fac:Int)]).alloc _).cell j v hj
  ·have:=(Cells.new (w.alloc (.cells #[.pointer (some ⟨g,0,none⟩),.int .u32 x,.int .i64 (p.fac:Int)] 155)) 35 [.int .u32 h,.int .i64 r]).cell j v hj
   simpa using this
 have HCh:Hid (∀w1,Below ((w.alloc (.cells #[.pointer (some ⟨g,0,none⟩),.int .u32 x,.int .i64 (p.fac:Int)] 155)).alloc (.cells #[.int .u32 h,.int .i64 r] 35)).heap.size ((w.alloc (.cells #[.pointer (some ⟨g,0,none⟩),.int .u32 x,.int .i64 (p.fac:Int)] 155)).alloc (.cells #[.int .u32 h,.int .i64 r] 35)) w1->HeldL Z g p.fac h r w.heap.size w1/\Calls prog 49 #[.pointer (some ⟨Z.S.c,0,none⟩)] w1 (fun r w'=>r=.returned (.pointer (some ⟨Z.S.P.p,0,none⟩))/\w1=w')/\_):=fun w1 hb1=>by
  have hb':Below w.heap.size w w1:=hb.trans (hb1.mono (by simp;omega));have s0:=(hs.grown hb).sep;have hbx1:=hbx.step (s0.grown hb1);have s1:=(hs.grown hb').sep;exact⟨hbx1.held s1,Q1I (SP.sS s1),Z4Q hs hb' ok t hi h1 h2 hs2 h0 hh hr (hg.grown hs hb') hbx1⟩
 have hheld:=(HCh.out _ (Below.refl _ _)).1;have hheldd:=(HCh.out _ ((Below.refl _ _).drew)).1;have kmem:=(HCh.out _ ((Below.refl _ _).drew)).2.1;have kget:=(HCh.out _ ((Below.refl _ _).drew)).2.2;have HGet:=Q0a kget;have HPk:Hid (∀w,Calls prog 105 #[.agg #[.int .u32 h,.int .i64 r]] w (Told w (.int .u64 ((⟨h,r,0⟩:Ent).a:Nat)))):=fun w=>Q8s w h r hh hr
 clear HCh hbx hb hs ok t hi h1 h2 h0 hg kget;generalize LayR Z fr N K p.fac i s h r w=Q at *
 unfold HeldL at hheld hheldd;go_enter func78,ntmps78;go_wp2_with fail
 go_region_held3 (fun w'=>w'.cell? ⟨Z.s,0,none⟩=some (.pointer (some ⟨Z.S.c,0,none⟩))/\w'.cell? ⟨w.heap.size,0,none⟩=some (.pointer (some ⟨g,0,none⟩))/\w'.cell? ⟨w.heap.size,2,none⟩=some (.int .i64 (p.fac:Int))/\w'.cell? ⟨w.heap.size+1,0,none⟩=some (.int .u32 h)/\w'.cell? ⟨w.heap.size+1,1,none⟩=some (.int .i64 r)) (first|exact hheld|exact hheldd|exact hcell)
  (first|(go_at_call 49;refine kmem.mono ?_;rintro r w' ⟨rfl,rfl⟩)|(go_at_call 65;refine HGet.out.mono ?_;rintro r w2 ⟨hcell,a,er,rfl,hy⟩;have HY:=Q0a hy;clear hy HGet))
 rcases HY.out with ⟨her,hq⟩|⟨A,rfl,rfl,hA,hy⟩
 ·have HQ:=Q0a hq;clear hq HY hheld hheldd kmem HPk hcell;rcases her with rfl|rfl
  all_goals
   go_wp2_with fail
   first|exact⟨_,rfl,HQ.out⟩|(go_ret;exact⟨_,rfl,HQ.out⟩)
 ·have HS:=Q0a hy;have hA0:(0:Int)<=(A:Int):=by omega
  have hA1:(A:Int)<=1073741824:=by omega
  have hwu:IntKind.u64.wrap (A:Int)=(A:Int):=by rw [IntKind.wrap_u64];omega
  have hwi:IntKind.i64.wrap (A:Int)=(A:Int):=Go.IntWalk.i64_in _ (by omega);have hcd:HeldL Z g p.fac h r w.heap.size w2.drew:=hcell;generalize ((⟨h,r,0⟩:Ent).a:Nat)=za at *
  clear hy HY hheld hheldd kmem hA;unfold HeldL at hcell hcd;go_wp2_with fail
  go_region_held3 (fun w'=>w'.cell? ⟨Z.s,0,none⟩=some (.pointer (some ⟨Z.S.c,0,none⟩))/\w'.cell? ⟨w.heap.size,0,none⟩=some (.pointer (some ⟨g,0,none⟩))/\w'.cell? ⟨w.heap.size,2,none⟩=some (.int .i64 (p.fac:Int))/\w'.cell? ⟨w.heap.size+1,0,none⟩=some (.int .u32 h)/\w'.cell? ⟨w.heap.size+1,1,none⟩=some (.int .i64 r)) (first|exact hcell|exact hcd|exact hc3|exact hc4)
   (first|(go_at_call 105;refine (HPk.out _).mono ?_;rintro r w3 ⟨rfl,hb3⟩;have hc3:=HeldL.grown hcd hb3;have HB3:=Q0a hb3;clear hb3 HPk)|(go_at_call 104;refine (HS.out _ (((Below.refl w2.heap.size w2).drew).trans HB3.out)).mono ?_;rintro r w4 ⟨hc4,er,rfl,hz⟩;have HZ:=Q0a hz;clear hz HS))
  rcases HZ.out with ⟨rfl,hq⟩|⟨her,hy⟩
  ·have HQ:=Q0a hq;clear hq HZ hcell hcd hc3 hc4;go_wp2_with fail
   first|exact⟨_,rfl,HQ.out⟩|(go_ret;exact⟨_,rfl,HQ.out⟩)
  ·have hcd4:HeldL Z g p.fac h r w.heap.size w4.drew:=hc4;have kmem:=(hy _ ((Below.refl _ _).drew)).1;have HP:=Q0a (hy _ ((Below.refl _ _).drew)).2;have hnb:(er==0)=false:=by rcases her with rfl|rfl <;> rfl
   clear hy HZ hcell hcd hc3 her;unfold HeldL at hc4 hcd4;go_wp2_with fail
   go_region_held3 (fun w'=>w'.cell? ⟨Z.s,0,none⟩=some (.pointer (some ⟨Z.S.c,0,none⟩))/\w'.cell? ⟨w.heap.size,0,none⟩=some (.pointer (some ⟨g,0,none⟩))/\w'.cell? ⟨w.heap.size,2,none⟩=some (.int .i64 (p.fac:Int))/\w'.cell? ⟨w.heap.size+1,0,none⟩=some (.int .u32 h)/\w'.cell? ⟨w.heap.size+1,1,none⟩=some (.int .i64 r)) (first|exact hc4|exact hcd4|exact hc6)
    (first|(go_at_call 49;refine kmem.mono ?_;rintro r w' ⟨rfl,rfl⟩)|(go_at_call 159;refine HP.out.mono ?_;rintro r w6 ⟨rfl,hc6,hq⟩;have HQ:=Q0a hq;clear hq HP))
   go_wp2_with fail
   first|exact⟨_,rfl,HQ.out⟩|(go_ret;exact⟨_,rfl,HQ.out⟩)
def Z4R (Z:SP) (g f B:Nat) (w':World):Prop:=w'.cell? ⟨Z.s,0,none⟩=some (.pointer (some ⟨Z.S.c,0,none⟩))/\w'.cell? ⟨B,0,none⟩=some (.pointer (some ⟨g,0,none⟩))/\w'.cell? ⟨B,2,none⟩=some (.int .i64 f)
theorem Z2a {w w1:World} {Z:SP} {fr:List Nat} {N K:Nat} (hs:Sep w Z.hl) (hb:Below w.heap.size w w1) (ok:Z.S.Ok fr N K) (t:TPI Z.S Z.tb) {i s x g B:Nat} {p:Pl} {e:Ent} (hi:Z.S.l[i]?=some p) (h1:p.st=1) (h2:p.kind=2) (hs2:s<256) (he:(Z.tb i).en s=some e)
  (hg:TblZ Z p g w1) (hbx:AsideV Z.hl [.pointer (some ⟨g,0,none⟩),.int .u32 x,.int .i64 (p.fac:Int)] (some ⟨B,0,none⟩) w1) :
  Calls prog 165 #[.pointer (some ⟨g,0,none⟩),.int .i64 s] w1 fun rv w2=>rv=.returned (.int .i64 0)/\Z4R Z g p.fac B w2/\e.nd<=1073741824/\∀w3,Below w2.heap.size w2 w3 ->
   Calls prog 49 #[.pointer (some ⟨Z.S.c,0,none⟩)] w3 (fun r w'=>r=.returned (.pointer (some ⟨Z.S.P.p,0,none⟩))/\w3=w') /\
   Calls prog 159 #[.pointer (some ⟨Z.S.P.p,0,none⟩),.int .i64 (p.fac:Int),.int .i64 6,.int .i64 (e.nd:Int)] w3 fun rv w4=>rv=.returned (.int .i64 0)/\Z4R Z g p.fac B w4/\Z8Z Z fr N K p.fac i s none w w4:=by
 have s1:=(hs.grown hb).sep;have hown':∃q∈Z.S.l,q.st=1/\(q.fac:Int)=(p.fac:Int):=⟨p,J2G hi,h1,rfl⟩
 have hi256:=Q1A ok.inv.len hi;refine (Z1Z ok (t.x (p.fac:Int)) hi h1 h2 rfl hs2 he (SP.sS s1) hg.c).mono ?_;rintro rv w2 ⟨rfl,S1,t',ok1,t1,en,full,lf,al,st⟩;have st1z:=SP.stepS s1 S1 (updT Z.tb i t') al.c st;have st1:Step Z.hl (Z.setS S1 (updT Z.tb i t')).hl w w2:=(hs.grown hb).trans st1z;have hbx1:=AsideV.step hbx st1z;have hnu:e.nd∈S1.P.usedOf 6:=t1.nds.mem_iff.1 (by simp);have hm:=Q0l ok1.inv.mem.pool hnu;have hbm:=Q0n ok1.inv.mem.pool;have hheld:∀{w3:World} {Z':SP},Z'.s=Z.s->Z'.S.c=Z.S.c->Sep w3 Z'.hl->AsideV Z'.hl [.pointer (some ⟨g,0,none⟩),.int .u32 x,.int .i64 (p.fac:Int)] (some ⟨B,0,none⟩) w3->Z4R Z g p.fac B w3:=fun {w3 Z'} e1 e2 hz hx=>by
  have:=SP.c0 hz;rw [e1,e2] at this;exact⟨this,hx.at 0 _ rfl,hx.at 2 _ rfl⟩
 refine⟨rfl,hheld (Z':=Z.setS S1 (updT Z.tb i t')) rfl al.c st1.sep hbx1,by omega,fun w3 hb3=>?_⟩;have st3:=st1.trans (st1.sep.grown hb3);have hbx3:=AsideV.step hbx1 (st1.sep.grown hb3);have hi1:S1.l[i]?=some p:=by rw [al.l];exact hi
 have km:=Q1I (SP.sS st3.sep);have hpp:(Z.setS S1 (updT Z.tb i t')).S.P.p=Z.S.P.p:=al.same.p;have hcc:(Z.setS S1 (updT Z.tb i t')).S.c=Z.S.c:=al.c;rw [hpp,hcc] at km;refine⟨km,?_⟩;obtain⟨ac1,hac1⟩:=Q8m ok1 hi1 h1;have hpd:=t1.paid ok1 hac1;rw [J2R,J4o] at hpd;obtain⟨c,hc⟩:=PL.cls ok1.inv.mem.pool (by omega:1<=6) (by omega);have kp:=Q3V (CO.sP (SP.sS st3.sep)) ok1.inv.mem.pool (p.fac:Int) hac1 6 (by rw [Q4F];omega) c hc e.nd (by rw [<- Q0O hc];exact hnu) (by omega);rw [hpp] at kp;refine kp.mono ?_;rintro rv w4 ⟨rfl,P2,b6,stp⟩;have hown1:∃q∈S1.l,q.st=1/\(q.fac:Int)=(p.fac:Int):=by rw [al.l];exact hown'
 obtain⟨ok2,t2⟩:=TPX.put (xl:=[]) (xn:=[]) ok1 (.inl rfl) (by rw [if_neg (by decide),if_pos rfl];exact t1) b6 hown1;have al2:=al.trans (Alt.put ok1 b6);have stz:Step (Z.setS S1 (updT Z.tb i t')).hl ((Z.setS S1 (updT Z.tb i t')).setS (S1.paid P2 (p.fac:Int) (-((Q0c 6:Nat):Int))) (updT Z.tb i t')).hl w3 w4:=SP.stepS st3.sep _ _ rfl (CO.stepPaid (SP.sS st3.sep) P2 (p.fac:Int) _ b6.p stp);have stf:Step Z.hl (Z.setS (S1.paid P2 (p.fac:Int) (-((Q0c 6:Nat):Int))) (updT Z.tb i t')).hl w w4:=st3.trans stz;refine⟨rfl,hheld (Z':=Z.setS (S1.paid P2 (p.fac:Int) (-((Q0c 6:Nat):Int))) (updT Z.tb i t')) rfl al2.c stf.sep (AsideV.step hbx3 stz),_,t',⟨ok2,t2.done fun j hj=>?_,en,lf,al2⟩,stf⟩
 by_cases ej:j=i
 ·subst ej;rw [updT_same];exact full (t.full j hj)
 ·rw [Q0Q ej];exact t.full j hj
theorem Q5M {w:World} {Z:SP} {fr:List Nat} {N K:Nat} (hs:Sep w Z.hl) (ok:Z.S.Ok fr N K) (t:TPI Z.S Z.tb) {i s x g:Nat} {p:Pl} {e:Ent} (hi:Z.S.l[i]?=some p) (h1:p.st=1) (h2:p.kind=2) (hs2:s<256) (he:(Z.tb i).en s=some e) (hg:TblZ Z p g w) :
  Calls prog 81 #[.pointer (some ⟨Z.s,0,none⟩),.agg #[.pointer (some ⟨g,0,none⟩),.int .u32 x,.int .i64 (p.fac:Int)],.int .i64 s] w fun rv w'=>rv=.returned (.tuple #[])/\Z8Z Z fr N K p.fac i s none w w':=by
 have hb:Below w.heap.size w (w.alloc (.cells #[.pointer (some ⟨g,0,none⟩),.int .u32 x,.int .i64 (p.fac:Int)] 155)):=(Below.refl _ _).alloc (J0t _) _;have hbx:AsideV Z.hl [.pointer (some ⟨g,0,none⟩),.int .u32 x,.int .i64 (p.fac:Int)] (some ⟨w.heap.size,0,none⟩) (w.alloc (.cells #[.pointer (some ⟨g,0,none⟩),.int .u32 x,.int .i64 (p.fac:Int)] 155)):=fun j v hj=>⟨w.heap.size,rfl,fun hk=>by have:=hs.lt hk;omega,by simp,(Cells.new w 155 [.pointer (some ⟨g,0,none⟩),.int .u32 x,.int .i64 (p.fac:Int)]).cell j v hj⟩
 have T1:=(t.x (p.fac:Int)).tt ok hi h1 h2 (SP.sS (hs.grown hb).sep) (hg.grown hs hb).c;have kg:=Q4n T1 (s:Int);rw [show (Z.tb i).at' (s:Int)=some e by unfold TB.at';rw [if_pos ⟨by omega,by omega⟩,J1x,he]] at kg;have kc:=Z2a hs hb ok t hi h1 h2 hs2 he (hg.grown hs hb) hbx;have HK:=Q0a kc;have b0:=hbx.at 0 _ rfl;unfold getV Q0P at kg;generalize Q0q (some e)=ca at *
 clear hb hs ok t hi h1 h2 he hg T1 kc hbx;go_enter func81,ntmps81;go_wp2_with fail;refine kg.mono ?_;rintro r w1 ⟨rfl,rfl⟩;go_wp2_with fail;refine HK.out.mono ?_;rintro r w2 ⟨rfl,hcell,hnd,hy⟩;have kmem:=(hy _ ((Below.refl _ _).drew)).1;have HP:=Q0a (hy _ ((Below.refl _ _).drew)).2;clear hy HK kg;have hcelld:Z4R Z g p.fac w.heap.size w2.drew:=hcell;generalize e.nd=nd at *
 have hn0:(0:Int)<=(nd:Int)/\(nd:Int)<=1073741824:=by omega
 obtain⟨n0,n1⟩:=hn0;have hwu:IntKind.u64.wrap (nd:Int)=(nd:Int):=by rw [IntKind.wrap_u64];omega
 have hwi:IntKind.i64.wrap (nd:Int)=(nd:Int):=Go.IntWalk.i64_in _ (by omega);unfold Z4R at hcell hcelld;go_wp2_with fail
 go_region_held3 (fun w'=>w'.cell? ⟨Z.s,0,none⟩=some (.pointer (some ⟨Z.S.c,0,none⟩))/\w'.cell? ⟨w.heap.size,0,none⟩=some (.pointer (some ⟨g,0,none⟩))/\w'.cell? ⟨w.heap.size,2,none⟩=some (.int .i64 (p.fac:Int))) (first|exact hcell|exact hcelld|exact hcell2)
  (first|(go_at_call 49;refine kmem.mono ?_;rintro r w' ⟨rfl,rfl⟩)|(go_at_call 159;refine HP.out.mono ?_;rintro r w4 ⟨rfl,hcell2,hq⟩;have HQ:=Q0a hq;clear hq HP))
 go_wp2_with fail
 first|exact⟨rfl,HQ.out⟩|(go_end0;exact⟨rfl,HQ.out⟩)
end Go.Proofs.YtlakjlmaboioiaaGreatDoor
