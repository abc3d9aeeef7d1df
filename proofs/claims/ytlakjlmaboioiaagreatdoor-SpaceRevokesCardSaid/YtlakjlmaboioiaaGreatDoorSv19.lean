/- SpaceRevokes returns true at every input. No condition. Part of its proof. -/
import Derived.Test.YtlakjlmaboioiaaGreatDoorSv18
set_option maxHeartbeats 4000000
set_option maxRecDepth 100000
set_option linter.unusedVariables false
namespace Go.Proofs.YtlakjlmaboioiaaGreatDoor
open Go.RowKit Go.Proofs.Tryz
structure TurnP (S:CO) (fr:List Nat) (N K:Nat) (tb:Nat->TB) (own:Int) (i s:Nat) (o:Option Ent) (S':CO) (t':TB):Prop where
 ok:S'.Ok fr N K
 tpi:TPI S' (updT tb i t')
 en:∀x,t'.en x=if x=s then o else (tb i).en x
 lf:∀k,(tb i).lf k=0∨t'.lf k=0∨t'.lf k=(tb i).lf k
 alt:Alt S S' own
def J1d (S:CO) (fr:List Nat) (N K:Nat) (tb:Nat->TB) (own:Int) (i s:Nat) (o:Option Ent) (w w':World):Prop:=∃S' t',TurnP S fr N K tb own i s o S' t'/\Step S.hl S'.hl w w'
theorem Q6r {l:List Pl} {tb:Nat->TB} (N N':List (En Nd)) {h s:Nat} {p:Pl} (hp:pget l 1 h=some p) (hk:p.kind=2) (hs:s<256) {t':TB} {o:Option Ent} (ht:∀x,t'.en x=if x=s then o else (tb (h%256)).en x) :
  avOf l (updT tb (h%256) t') N'=⟨setA (avOf l tb N).en h s (o.map Ent.c),N'⟩:=by
 unfold avOf setA;congr 1;funext h' s';rw [Q3G hp hk hs ht];split <;> rfl
theorem Q6K {l:List Pl} {tb:Nat->TB} {N:List (En Nd)} {h s:Nat} {e:Ent} (he:Q0f l tb h s=some e):(avOf l tb N).en h s=some (e.h,e.r):=by
 unfold avOf;simp only [he];rfl
theorem av_none {l:List Pl} {tb:Nat->TB} {N:List (En Nd)} {h s:Nat}:(avOf l tb N).en h s=none↔Q0f l tb h s=none:=by
 unfold avOf;simp
theorem Q2T {l:List Pl} {tb:Nat->TB} {N:List (En Nd)} {h s:Nat} {x:Nat×Nat} (hx:(avOf l tb N).en h s=some x):∃e,Q0f l tb h s=some e/\x=(e.h,e.r):=by
 unfold avOf at hx;simp only at hx;cases he:Q0f l tb h s with
 | none=>rw [he] at hx;cases hx
 | some e=>rw [he] at hx;cases hx;exact⟨e,rfl,rfl⟩
theorem Q1W {m:Nat} {a:AV} {id:Int} {n:En Nd} (hf:find a.N id=some n) {h s:Nat} (h1:n.q.sp=(h:Int)) (h2:n.q.sl=(s:Int)) {x:Nat×Nat} (hx:a.en h s=some x) :
  weak1 m a id=if less x.2 m=0 then (⟨setA a.en h s none,Q0v a.N n n.q.ks.length⟩,true) else (⟨setA a.en h s (some (x.1,less x.2 m)),a.N⟩,false):=by
 unfold weak1;rw [hf];simp only [h1,h2,J2R,hx]
section
variable {Z:SP} {fr:List Nat} {N K:Nat} {M:Int}
theorem SP.Ok.weakened (ok:Z.Ok fr N K M) {id:Int} {n:En Nd} (hf:find Z.F.N id=some n) {h s:Nat} {p:Pl} {e:Ent} (h1:n.q.sp=(h:Int)) (h2:n.q.sl=(s:Int)) (hp:pget Z.S.l 1 h=some p) (hk:p.kind=2) (hs:s<256) (he:Q0f Z.S.l Z.tb h s=some e) {m:Nat} (hm:m<16) (h0:less e.r m≠0)
  (hd:Q3H m Z.av [] id) {S':CO} {t':TB} (T:TurnP Z.S fr N K Z.tb (p.fac:Int) (h%256) s (some ⟨e.h,less e.r m,e.nd⟩) S' t') :
  (Z.setS S' (updT Z.tb (h%256) t')).Ok fr N K M/\weak1 m Z.av id=((Z.setS S' (updT Z.tb (h%256) t')).av,false)/\SameZ Z (Z.setS S' (updT Z.tb (h%256) t')):=by
 have hr:=(ok.fpi.cap h s e he).r;obtain⟨a1,a2,a3⟩:=Q5J e.r (by omega) m hm;have hl:=T.alt.l;have Da:=Q6r Z.F.N Z.F.N hp hk hs T.en;refine⟨⟨T.ok,T.tpi,?_,ok.fo,ok.next⟩,?_,⟨⟨rfl,T.alt.alt0,rfl⟩,rfl⟩⟩
 ·show FPI S'.l _ Z.F.N;rw [hl];refine ok.fpi.weak ok.fo.n hp hk hs he T.en rfl ⟨by show 1<=less e.r m;omega,by show less e.r m<=15;omega⟩ a2 fun c hc d Gg e1 e2 x hx=>?_
  -- d is the node itself
  obtain⟨d1,d2⟩:=Q0b Gg;obtain⟨n1,n2⟩:=Q0b hf;have UK:d=n:=Q2v ok.fo.n d1 n1 (by rw [e1,h1]) (by rw [e2,h2]);subst UK;obtain⟨q1,q2⟩:=ok.fo.n.par c hc;have AW:c.q.par=d.id:=d2.symm;obtain⟨pp,p1,p2⟩:=q2 (by have:=ok.fo.n.rng d n1;omega);rw [Gg] at p1;cases p1;have Pp:=ok.fpi.up c hc d Gg x e hx (by
   unfold Q0D;rw [h1,h2,J2R,J2R];exact he)
  have Vf:1<=x.r/\x.r<=15:=by
   obtain⟨ch,cs,cp,ce,c1,c2,c3,c4,c5,c6,c7,c8⟩:=ok.fpi.task ok.fo.n hc;unfold Q0D at hx;rw [c1,c2,J2R,J2R,c8] at hx;cases hx;exact (ok.fpi.cap _ _ _ c8).r
  rcases hd d hf c.id p2 with hz|hz
  ·cases hz
  ·have F6:=hz c (Q0g ok.fo.n.ids hc) (x.h,x.r) (Q6K hx);exact Z8p x.r (by omega) e.r (by omega) m hm Pp.2 F6
 ·rw [Q1W (a:=Z.av) hf h1 h2 (Q6K he)];simp only;rw [if_neg h0];congr 1;show _=avOf S'.l (updT Z.tb (h%256) t') Z.F.N;rw [hl,Da];rfl
theorem SP.Ok.lifted (ok:Z.Ok fr N K M) {id:Int} {n:En Nd} (hf:find Z.F.N id=some n) {h s:Nat} {p:Pl} {e:Ent} (h1:n.q.sp=(h:Int)) (h2:n.q.sl=(s:Int)) (hp:pget Z.S.l 1 h=some p) (hk:p.kind=2) (hs:s<256) (he:Q0f Z.S.l Z.tb h s=some e) {m:Nat} (h0:less e.r m=0)
  {S':CO} {t':TB} (T:TurnP Z.S fr N K Z.tb (p.fac:Int) (h%256) s none S' t') {F':FO} (hF:F'.N=Q0v Z.F.N n n.q.ks.length) (Es:F'.Ok) (I8:F'.next=Z.F.next) (FM:F'.f=Z.F.f) :
  ((Z.setF F').setS S' (updT Z.tb (h%256) t')).Ok fr N K M/\weak1 m Z.av id=(((Z.setF F').setS S' (updT Z.tb (h%256) t')).av,true)/\SameZ Z ((Z.setF F').setS S' (updT Z.tb (h%256) t')):=by
 have hl:=T.alt.l;have Da:=Q6r Z.F.N F'.N hp hk hs T.en;obtain⟨n1,n2⟩:=Q0b hf;refine⟨⟨T.ok,T.tpi,?_,Es,by show F'.next<=M;rw [I8];exact ok.next⟩,?_,⟨⟨rfl,T.alt.alt0,FM⟩,I8⟩⟩
 ·show FPI S'.l _ F'.N;rw [hl,hF];exact ok.fpi.lift ok.fo.n hp hk hs T.en (by rw [n2];exact hf) h1 h2
 ·rw [Q1W (a:=Z.av) hf h1 h2 (Q6K he)];simp only;rw [if_pos h0];congr 1;show _=avOf S'.l (updT Z.tb (h%256) t') F'.N;rw [hl,Da,hF];rfl
theorem SP.Ok.added (ok:Z.Ok fr N K M) {h s:Nat} {p:Pl} (hp:pget Z.S.l 1 h=some p) (hk:p.kind=2) (hs:s<256) (h0:Q0f Z.S.l Z.tb h s=none) {e:Ent} (hc:Q6J Z.S.l s e)
  {S':CO} {t':TB} (T:TurnP Z.S fr N K Z.tb (p.fac:Int) (h%256) s (some e) S' t') {par:Int} (AW:par=0∨∃m em,find Z.F.N par=some m/\Q0D Z.S.l Z.tb m=some em/\e.h=em.h/\e.r&&&em.r=e.r) {F':FO} (A:Z1O Z.F par (h:Int) (s:Int) F') :
  ((Z.setF F').setS S' (updT Z.tb (h%256) t')).Ok fr N K (M+1)/\SameN Z ((Z.setF F').setS S' (updT Z.tb (h%256) t'))/\((Z.setF F').setS S' (updT Z.tb (h%256) t')).av.en=setA Z.av.en h s (some (e.h,e.r))/\∃b,((Z.setF F').setS S' (updT Z.tb (h%256) t')).av.N=addN Z.F.N par (Z.F.next+1) b (h:Int) (s:Int):=by
 have hl:=T.alt.l;obtain⟨b,hN⟩:=A.N;have Da:=Q6r Z.F.N F'.N hp hk hs T.en;have Gn:((Z.setF F').setS S' (updT Z.tb (h%256) t')).av=⟨setA Z.av.en h s ((some e).map Ent.c),F'.N⟩:=by
  show avOf S'.l (updT Z.tb (h%256) t') F'.N=_;rw [hl,Da];rfl
 refine⟨⟨T.ok,T.tpi,?_,A.ok,by show F'.next<=M+1;rw [A.next];have:=ok.next;omega⟩,⟨rfl,T.alt.alt0,A.f⟩,by rw [Gn];rfl,b,by rw [Gn];exact hN⟩;show FPI S'.l _ F'.N;rw [hl,hN];exact ok.fpi.add ok.fo.n hp hk hs h0 T.en hc b AW
end
theorem Q2U (w:World) (z:Int):Calls prog 75 #[.int .i64 z] w fun r w'=>r=.returned (.bool (decide (0<=z/\z<256)))/\w=w':=by
 by_cases h0:0<=z
 ·by_cases h1:z<256
  ·rw [decide_eq_true (show 0<=z/\z<256 from ⟨h0,h1⟩)];go_enter func75,ntmps75
   go_wp2
   go_ret;exact⟨rfl,rfl⟩
  ·rw [decide_eq_false (show ¬(0<=z/\z<256) from fun h=>h1 h.2)];have hd:decide (z<256)=false:=by simpa using h1
   go_enter func75,ntmps75
   go_wp2
   go_ret;exact⟨rfl,rfl⟩
 ·rw [decide_eq_false (show ¬(0<=z/\z<256) from fun h=>h0 h.1)];have hd:decide (0<=z)=false:=by simpa using h0
  go_enter func75,ntmps75
  go_wp2
  go_ret;exact⟨rfl,rfl⟩
theorem Q3J (w:World) (z:Int):Calls prog 76 #[.int .i64 z] w fun r w'=>r=.returned (.bool (decide (0<z/\z<=15)))/\w=w':=by
 by_cases h0:0<z
 ·by_cases h1:z<=15
  ·rw [decide_eq_true (show 0<z/\z<=15 from ⟨h0,h1⟩)];go_enter func76,ntmps76
   go_wp2
   go_ret;exact⟨rfl,rfl⟩
  ·rw [decide_eq_false (show ¬(0<z/\z<=15) from fun h=>h1 h.2)];have hd:decide (z<=15)=false:=by simpa using h1
   go_enter func76,ntmps76
   go_wp2
   go_ret;exact⟨rfl,rfl⟩
 ·rw [decide_eq_false (show ¬(0<z/\z<=15) from fun h=>h0 h.1)];have hd:decide (0<z)=false:=by simpa using h0
  go_enter func76,ntmps76
  go_wp2
  go_ret;exact⟨rfl,rfl⟩
theorem Q2H (w:World) (z:Int):Calls prog 77 #[.int .i64 z] w fun r w'=>r=.returned (.bool (decide (z<128)))/\w=w':=by
 go_enter func77,ntmps77
 go_wp2
 go_ret;exact⟨rfl,rfl⟩
theorem Z8y (h r:Nat) (hh:h<4294967295) (hr:r<16):bits .or .u64 ((h:Int)+1) ((r:Int)*4294967296)=(((⟨h,r,0⟩:Ent).a:Nat):Int):=by
 have e1:((h:Int)+1)=((h+1:Nat):Int):=by omega
 have e2:((r:Int)*4294967296)=((r*4294967296:Nat):Int):=by omega
 rw [e1,e2,u64_or_nat _ _ (by omega) (by omega)];unfold Ent.a;have:(h+1)|||(r*4294967296)=h+1+4294967296*r:=by
  rw [Nat.or_comm,nat_join 32 (r*4294967296) (h+1) (by omega) (by omega)];omega
 rw [this]
theorem J0l (h r:Nat) (hh:h<4294967295) (hr:r<16):bits .and .u64 ((((⟨h,r,0⟩:Ent).a:Nat):Int)) 4294967295=((h+1:Nat):Int):=by
 unfold Ent.a;have:=u64_and_nat (h+1+4294967296*r) 4294967295 (by omega) (by omega);rw [show ((4294967295:Nat):Int)=4294967295 from rfl] at this;rw [show (⟨h,r,0⟩:Ent).h=h from rfl,show (⟨h,r,0⟩:Ent).r=r from rfl,this,J3r _ 32];omega
theorem Z8z (h r:Nat) (hh:h<4294967295):(((⟨h,r,0⟩:Ent).a:Nat):Int)/4294967296=(r:Int):=by
 unfold Ent.a;show ((h+1+4294967296*r:Nat):Int)/4294967296=(r:Int);omega
theorem J1B (e:Ent):e.a=(⟨e.h,e.r,0⟩:Ent).a:=rfl
def capV:Option Ent->Value
 | none=>.tuple #[.agg #[.int .u32 0,.int .i64 0],.bool false]
 | some e=>.tuple #[.agg #[.int .u32 (e.h:Int),.int .i64 (e.r:Int)],.bool true]
def Ent.Low (e:Ent):Prop:=e.h<4294967295/\e.r<16
theorem Q1u {w:World} {S:CO} {t:TB} {p:Pl} {g:Nat} (T:TT S t p g w) (x f z:Int) (Gw:∀e,t.at' z=some e->e.Low) :
  Calls prog 74 #[.agg #[.pointer (some ⟨g,0,none⟩),.int .u32 x,.int .i64 f],.int .i64 z] w (Told w (capV (t.at' z))):=by
 have Af:Below w.heap.size w ((w.alloc (.cells #[.pointer (some ⟨g,0,none⟩),.int .u32 x,.int .i64 f] 155)).alloc (.cells #[.int .u32 0,.int .i64 0] 35)):=((Below.refl _ _).alloc (J1L _) _).alloc (by simp) _;have kg:=Q3I (T.grown Af) z;have hA:=(Cells.new w 155 [.pointer (some ⟨g,0,none⟩),.int .u32 x,.int .i64 f]).alloc (.cells #[.int .u32 0,.int .i64 0] 35);have a0:=hA.cell 0 _ rfl;have HE:Hid (∀o,Below w.heap.size w ((w.alloc (.cells #[.pointer (some ⟨g,0,none⟩),.int .u32 x,.int .i64 f] 155)).alloc o)):=fun o=>((Below.refl _ _).alloc (J1L _) _).alloc (by simp) o
 cases ho:t.at' z with
 | none =>
  rw [ho] at kg;unfold getV Q0t Q0V at kg;simp only [capV];clear T Gw ho hA Af;go_enter func74,ntmps74;go_wp2_with fail;refine kg.mono ?_;rintro r w1 ⟨rfl,rfl⟩;go_wp2_with fail;refine bodyPost_ret (v:=.tuple #[.agg #[.int .u32 0,.int .i64 0],.bool false]) (by simp [results,results74,go_sem]) rfl ⟨rfl,HE.out _⟩
 | some e =>
  obtain⟨l1,l2⟩:=Gw e ho;rw [ho] at kg;simp only [getV,Q0t] at kg;simp only [capV];have h1:=J0l e.h e.r l1 l2;have h2:=Z8z e.h e.r l1;have Aa:((e.a:Nat):Int)≠0:=by unfold Ent.a;omega
  have FX:(((e.a:Nat):Int)==0)=false:=by simpa using Aa
  rw [<- J1B] at h1 h2;have Dv:(bits .and .u64 ((e.a:Nat):Int) 4294967295-1)%4294967296=(e.h:Int):=by rw [h1];omega
  have EB:((e.a:Nat):Int)/4294967296=(e.r:Int):=h2;have TW:=Q0a Dv;have T8:=Q0a EB;clear Dv EB h1 h2;have Ab:e.a<18446744073709551616:=by unfold Ent.a;omega
  generalize Q0V (some e)=cb at *
  generalize e.a=ca at *
  generalize e.h=eh at *
  generalize e.r=er at *
  have Tb:(0:Int)<=(ca:Int):=by omega
  clear T Gw ho hA Af Aa;go_enter func74,ntmps74;go_wp2_with fail;refine kg.mono ?_;rintro r w1 ⟨rfl,rfl⟩;go_wp2_with fail;refine bodyPost_ret (v:=.tuple #[.agg #[.int .u32 eh,.int .i64 er],.bool true]) (by simp [results,results74,go_sem,TW.out,T8.out]) rfl ⟨rfl,HE.out _⟩
def TblZ (Z:SP) (p:Pl) (g:Nat) (w:World):Prop:=AsideV Z.hl [ptr Z.S.P.p,.int .i64 (p.fac:Int),.int .i64 (p.at_:Int)] (some ⟨g,0,none⟩) w
theorem SP.keyS {Z:SP} {b:Nat} (h:b∈keys Z.S.hl):b∈keys Z.hl:=(Z.permS.map Prod.fst).mem_iff.2 (by rw [J5p];exact J2H _ h)
theorem TblZ.c {Z:SP} {p:Pl} {g:Nat} {w:World} (h:TblZ Z p g w):TblC Z.S p g w:=fun j v hj=>by
 obtain⟨g',e,hk,hl,hc⟩:=h j v hj;exact⟨g',e,fun x=>hk (SP.keyS x),hl,hc⟩
theorem TblZ.step {Z Z':SP} {p:Pl} {g:Nat} {w w':World} (h:TblZ Z p g w) (st:Step Z.hl Z'.hl w w') (hp:Z'.S.P.p=Z.S.P.p):TblZ Z' p g w':=by
 unfold TblZ;rw [hp];exact AsideV.step h st
theorem TblZ.grown {Z:SP} {p:Pl} {g:Nat} {w w':World} (h:TblZ Z p g w) (hs:Sep w Z.hl) (hb:Below w.heap.size w w'):TblZ Z p g w':=h.step (hs.grown hb) rfl
theorem Q9g {w:World} {Z:SP} {fr:List Nat} {N K:Nat} (h:Sep w Z.hl) (ok:Z.S.Ok fr N K) {x:Nat} (hx:x<4294967296) {p:Pl} (hp:pget Z.S.l 1 x=some p) (hk:p.kind=2) :
  Calls prog 73 #[.pointer (some ⟨Z.s,0,none⟩),.int .u32 x] w fun r w'=>∃g:Nat,r=.returned (.tuple #[.agg #[.pointer (some ⟨g,0,none⟩),.int .u32 x,.int .i64 (p.fac:Int)],.int .i64 0])/\Below w.heap.size w w'/\TblZ Z p g w'/\w.heap.size<=g:=by
 have b1:Below w.heap.size w (w.alloc (.cells #[.pointer none,.int .u32 0,.int .i64 0] 155)):=(Below.refl _ _).alloc (J1L _) _;have s1:=(h.grown b1).sep;have c0:=SP.c0 s1;have hO:Calls prog 30 #[.pointer (some ⟨Z.S.c,0,none⟩),.int .u32 x,.int .i64 2] (w.alloc (.cells #[.pointer none,.int .u32 0,.int .i64 0] 155)) (Told (w.alloc (.cells #[.pointer none,.int .u32 0,.int .i64 0] 155)) (.tuple #[.agg #[.int .i64 (p.kind:Int),.int .i64 (p.at_:Int),.int .i64 (p.fac:Int)],.int .i64 0])):=Q3E (SP.sS s1) ok.inv.lok hx 2 hp (.inr (by omega));have hu:p.at_∈Z.S.P.usedOf 2:=Q1I ok (pget_some.1 hp).1 (pget_some.1 hp).2.2 hk
 have HC:Hid (∀w1,Below (w.alloc (.cells #[.pointer none,.int .u32 0,.int .i64 0] 155)).heap.size (w.alloc (.cells #[.pointer none,.int .u32 0,.int .i64 0] 155)) w1 ->
   ((w1.alloc (.cells #[.int .i64 (p.kind:Int),.int .i64 (p.at_:Int),.int .i64 (p.fac:Int)] 69)).cell? ⟨Z.s,0,none⟩=some (.pointer (some ⟨Z.S.c,0,none⟩))/\(w1.alloc (.cells #[.int .i64 (p.kind:Int),.int .i64 (p.at_:Int),.int .i64 (p.fac:Int)] 69)).cell? ⟨w1.heap.size,1,none⟩=some (.int .i64 (p.at_:Int))/\(w1.alloc (.cells #[.int .i64 (p.kind:Int),.int .i64 (p.at_:Int),.int .i64 (p.fac:Int)] 69)).cell? ⟨w1.heap.size,2,none⟩=some (.int .i64 (p.fac:Int))) /\
   ∀w2,Below (w1.alloc (.cells #[.int .i64 (p.kind:Int),.int .i64 (p.at_:Int),.int .i64 (p.fac:Int)] 69)).heap.size (w1.alloc (.cells #[.int .i64 (p.kind:Int),.int .i64 (p.at_:Int),.int .i64 (p.fac:Int)] 69)) w2 ->
    Calls prog 49 #[.pointer (some ⟨Z.S.c,0,none⟩)] w2 (fun r w'=>r=.returned (.pointer (some ⟨Z.S.P.p,0,none⟩))/\w2=w') /\
    Calls prog 161 #[.pointer (some ⟨Z.S.P.p,0,none⟩),.int .i64 (p.fac:Int),.int .i64 (p.at_:Int)] w2 (fun r w'=>(w'.cell? ⟨Z.s,0,none⟩=some (.pointer (some ⟨Z.S.c,0,none⟩))/\w'.cell? ⟨w1.heap.size,1,none⟩=some (.int .i64 (p.at_:Int))/\w'.cell? ⟨w1.heap.size,2,none⟩=some (.int .i64 (p.fac:Int)))/\∃g:Nat,r=.returned (.pointer (some ⟨g,0,none⟩))/\Cells w' w.heap.size 155 [.pointer none,.int .u32 0,.int .i64 0]/\(∀a b c,(((w'.setCell ⟨w.heap.size,0,none⟩ a).setCell ⟨w.heap.size,1,none⟩ b).setCell ⟨w.heap.size,2,none⟩ c).cell? ⟨Z.s,0,none⟩=some (.pointer (some ⟨Z.S.c,0,none⟩))/\(((w'.setCell ⟨w.heap.size,0,none⟩ a).setCell ⟨w.heap.size,1,none⟩ b).setCell ⟨w.heap.size,2,none⟩ c).cell? ⟨w1.heap.size,1,none⟩=some (.int .i64 (p.at_:Int))/\(((w'.setCell ⟨w.heap.size,0,none⟩ a).setCell ⟨w.heap.size,1,none⟩ b).setCell ⟨w.heap.size,2,none⟩ c).cell? ⟨w1.heap.size,2,none⟩=some (.int .i64 (p.fac:Int)))/\∀a b c,Below w.heap.size w (((w'.setCell ⟨w.heap.size,0,none⟩ a).setCell ⟨w.heap.size,1,none⟩ b).setCell ⟨w.heap.size,2,none⟩ c)/\TblZ Z p g (((w'.setCell ⟨w.heap.size,0,none⟩ a).setCell ⟨w.heap.size,1,none⟩ b).setCell ⟨w.heap.size,2,none⟩ c)/\w.heap.size<=g)):=fun w1 Ax=>by
  have hR:=(Cells.new w 155 [.pointer none,.int .u32 0,.int .i64 0]).same (Ax.block w.heap.size (by simp));have Lh:Below w.heap.size w w1:=Q0e Ax;have Dq:=Lh.alloc Lh.size (.cells #[.int .i64 (p.kind:Int),.int .i64 (p.at_:Int),.int .i64 (p.fac:Int)] 69);have Og:=Cells.new w1 69 [.int .i64 (p.kind:Int),.int .i64 (p.at_:Int),.int .i64 (p.fac:Int)];have Pz:w.heap.size<w1.heap.size:=by have:=Ax.size;simp at this;omega
  have Sq:=hR.alloc (.cells #[.int .i64 (p.kind:Int),.int .i64 (p.at_:Int),.int .i64 (p.fac:Int)] 69);refine⟨⟨SP.c0 (h.grown Dq).sep,Og.cell 1 _ rfl,Og.cell 2 _ rfl⟩,fun w2 Af=>?_⟩;have KC:Below w.heap.size w w2:=Dq.trans (Af.mono (by simp;omega));have s2:=(h.grown KC).sep;refine⟨Q2d (SP.sS s2),(J0k (SP.sS s2) ok hu).mono ?_⟩;rintro r w' ⟨g,rfl,Ar,ht,hg⟩;have Na:=(Og.same (Af.block w1.heap.size (by simp))).same (Ar.block w1.heap.size (by have:=Af.size;simp at this;omega));have Az:Below w.heap.size w w':=KC.trans (Ar.mono KC.size);have Tq:=(Sq.same (Af.block w.heap.size (by simp;omega))).same (Ar.block w.heap.size (by have:=Af.size;simp at this;omega))
  refine⟨⟨SP.c0 (h.grown Az).sep,Na.cell 1 _ rfl,Na.cell 2 _ rfl⟩,g,rfl,Tq,fun a b c=>?_,fun a b c=>?_⟩
  ·have Bt:∀(W:World) (i k j:Nat) (u:Value),k≠w.heap.size->(W.setCell ⟨w.heap.size,i,none⟩ u).cell? ⟨k,j,none⟩=W.cell? ⟨k,j,none⟩:=fun W i k j u hk=>World.cell?_of_block (Below.heap_setCell _ _ _ _ (by simpa using hk))
   have EN:Z.s≠w.heap.size:=fun hx=>by
    have:=h.lt (b:=Z.s) (by simp [SP.hl,SP.head,keys]);omega
   have Dk:w1.heap.size≠w.heap.size:=by omega
   rw [Bt _ _ _ _ _ EN,Bt _ _ _ _ _ EN,Bt _ _ _ _ _ EN,Bt _ _ _ _ _ Dk,Bt _ _ _ _ _ Dk,Bt _ _ _ _ _ Dk,Bt _ _ _ _ _ Dk,Bt _ _ _ _ _ Dk,Bt _ _ _ _ _ Dk];exact⟨SP.c0 (h.grown Az).sep,Na.cell 1 _ rfl,Na.cell 2 _ rfl⟩
  refine⟨((Az.setCell (J1L _) _).setCell (J1L _) _).setCell (J1L _) _,fun j v hj=>?_,by have:=Af.size;simp at this;omega⟩;obtain⟨g',e,_,hl,hc⟩:=ht j v hj;obtain rfl:g=g':=by cases e;rfl
  clear e;have DG:w.heap.size<g:=by have:=Af.size;simp at this;omega
  refine⟨g,rfl,fun hk=>?_,by simpa using hl,?_⟩
  ·have:=s2.lt hk;omega
  ·have Aa:∀(W:World) (i:Nat) (u:Value),(W.setCell ⟨w.heap.size,i,none⟩ u).cell? ⟨g,j,none⟩=W.cell? ⟨g,j,none⟩:=fun W i u=>World.cell?_of_block (Below.heap_setCell _ _ _ _ (by simp;omega))
   rw [Aa,Aa,Aa];exact hc
 clear h ok hp hu b1 s1;have A3:((p.kind:Nat):Int)=2:=by omega
 rw [A3] at hO;simp only [A3] at HC;clear A3 hk;generalize p.at_=pa at *
 go_enter func73,ntmps73;go_wp2_with fail;refine hO.mono ?_;rintro r w1 ⟨rfl,Ax⟩;obtain⟨⟨c1,c2,c3⟩,A8⟩:=HC.out w1 Ax;have NZ:=Q0a A8;have d1:(w1.alloc (.cells #[.int .i64 2,.int .i64 pa,.int .i64 (p.fac:Int)] 69)).drew.cell? ⟨Z.s,0,none⟩=some (.pointer (some ⟨Z.S.c,0,none⟩)):=c1;have d2:(w1.alloc (.cells #[.int .i64 2,.int .i64 pa,.int .i64 (p.fac:Int)] 69)).drew.cell? ⟨w1.heap.size,1,none⟩=some (.int .i64 pa):=c2;have d3:(w1.alloc (.cells #[.int .i64 2,.int .i64 pa,.int .i64 (p.fac:Int)] 69)).drew.cell? ⟨w1.heap.size,2,none⟩=some (.int .i64 (p.fac:Int)):=c3;clear Ax A8 HC hO;go_wp2_with fail
 have D9:=(NZ.out _ ((Below.refl _ _).drew)).1;have Fp:=(NZ.out _ ((Below.refl _ _).drew)).2;have IT:=Q0a Fp;clear Fp NZ
 go_region_held3 (fun w'=>w'.cell? ⟨Z.s,0,none⟩=some (.pointer (some ⟨Z.S.c,0,none⟩))/\w'.cell? ⟨w1.heap.size,1,none⟩=some (.int .i64 pa)/\w'.cell? ⟨w1.heap.size,2,none⟩=some (.int .i64 (p.fac:Int))) (first|exact⟨c1,c2,c3⟩|exact⟨d1,d2,d3⟩|exact Al|exact Dz _ _ _)
  (first|(go_at_call 49;refine D9.mono ?_;rintro r w' ⟨rfl,rfl⟩)|(go_at_call 161;refine IT.out.mono ?_;rintro r w3 ⟨Al,g,rfl,Aj,Dz,hz⟩;have HZ:=Q0a hz;have e0:=Aj.cell 0 _ rfl;have e1:=Aj.cell 1 _ rfl;have e2:=Aj.cell 2 _ rfl;have f0:=Aj.free 0;have f1:=Aj.free 1;have f2:=Aj.free 2;have Ab:=Aj.lt;clear hz Aj IT))
 go_wp2_with fail;refine bodyPost_ret (v:=.tuple #[.agg #[.pointer (some ⟨g,0,none⟩),.int .u32 x,.int .i64 (p.fac:Int)],.int .i64 0]) (by simp [results,results73,go_sem,e0,e1,e2]) rfl ⟨g,rfl,HZ.out _ _ _⟩
theorem Q0U {w:World} {Z:SP} {fr:List Nat} {N K:Nat} (h:Sep w Z.hl) (ok:Z.S.Ok fr N K) {x:Nat} (hx:x<4294967296) {p:Pl} (hp:pget Z.S.l 1 x=some p) (hk:p.kind=2) :
  Calls prog 73 #[.pointer (some ⟨Z.s,0,none⟩),.int .u32 x] w fun r w'=>∃g:Nat,r=.returned (.tuple #[.agg #[.pointer (some ⟨g,0,none⟩),.int .u32 x,.int .i64 (p.fac:Int)],.int .i64 0])/\Below w.heap.size w w'/\TblZ Z p g w':=
 (Q9g h ok hx hp hk).mono fun r w' ⟨g,h1,h2,h3,_⟩=>⟨g,h1,h2,h3⟩
theorem Q7m {w:World} {Z:SP} (h:Sep w Z.hl) {x:Nat} {e:Int} (he:e≠0) (hO:Calls prog 30 #[.pointer (some ⟨Z.S.c,0,none⟩),.int .u32 x,.int .i64 2] (w.alloc (.cells #[.pointer none,.int .u32 0,.int .i64 0] 155)) (Told (w.alloc (.cells #[.pointer none,.int .u32 0,.int .i64 0] 155)) (.tuple #[.agg #[.int .i64 0,.int .i64 0,.int .i64 0],.int .i64 e]))) :
  Calls prog 73 #[.pointer (some ⟨Z.s,0,none⟩),.int .u32 x] w (Told w (.tuple #[.agg #[.pointer none,.int .u32 0,.int .i64 0],.int .i64 e])):=by
 have b1:Below w.heap.size w (w.alloc (.cells #[.pointer none,.int .u32 0,.int .i64 0] 155)):=(Below.refl _ _).alloc (J1L _) _;have c0:=SP.c0 (h.grown b1).sep;have FX:(e==0)=false:=by simpa using he
 have HC:Hid (∀w1,Below (w.alloc (.cells #[.pointer none,.int .u32 0,.int .i64 0] 155)).heap.size (w.alloc (.cells #[.pointer none,.int .u32 0,.int .i64 0] 155)) w1->(∀o,Cells (w1.alloc o) w.heap.size 155 [.pointer none,.int .u32 0,.int .i64 0])/\∀o a b c,Below w.heap.size w ((((w1.alloc o).setCell ⟨w.heap.size,0,none⟩ a).setCell ⟨w.heap.size,1,none⟩ b).setCell ⟨w.heap.size,2,none⟩ c)):=fun w1 Ax=>by
  have hR:=(Cells.new w 155 [.pointer none,.int .u32 0,.int .i64 0]).same (Ax.block w.heap.size (by simp));exact⟨hR.alloc,fun o a b c=>((((Q0e Ax).alloc (Q0e Ax).size o).setCell (J1L _) _).setCell (J1L _) _).setCell (J1L _) _⟩
 clear h b1;go_enter func73,ntmps73;go_wp2_with fail;refine hO.mono ?_;rintro r w1 ⟨rfl,Ax⟩;obtain⟨BP,hz⟩:=HC.out w1 Ax;have Aj:=BP (.cells #[.int .i64 0,.int .i64 0,.int .i64 0] 69);have HZ:=Q0a hz;have e0:=Aj.cell 0 _ rfl;have e1:=Aj.cell 1 _ rfl;have e2:=Aj.cell 2 _ rfl;have f0:=Aj.free 0;have f1:=Aj.free 1;have f2:=Aj.free 2;have Ab:=Aj.lt;clear Ax hz Aj BP HC hO;go_wp2_with fail;refine bodyPost_ret (v:=.tuple #[.agg #[.pointer none,.int .u32 0,.int .i64 0],.int .i64 e]) (by simp [results,results73,go_sem,e0,e1,e2]) rfl ⟨rfl,HZ.out _ _ _ _⟩
theorem Q0K {w:World} {Z:SP} {fr:List Nat} {N K:Nat} (h:Sep w Z.hl) (ok:Z.S.Ok fr N K) {x:Nat} (hx:x<4294967296) (e:Int) (hw:(pget Z.S.l 1 x=none/\e=8)∨∃p,pget Z.S.l 1 x=some p/\p.kind≠2/\e=10) :
  Calls prog 73 #[.pointer (some ⟨Z.s,0,none⟩),.int .u32 x] w (Told w (.tuple #[.agg #[.pointer none,.int .u32 0,.int .i64 0],.int .i64 e])):=by
 have s1:=(h.grown ((Below.refl w.heap.size w).alloc (J1L _) (.cells #[.pointer none,.int .u32 0,.int .i64 0] 155))).sep;rcases hw with ⟨hp,rfl⟩|⟨p,hp,hk,rfl⟩
 ·exact Q7m h (by decide) (Q4z (SP.sS s1) ok.inv.lok hx 2 hp)
 ·exact Q7m h (by decide) (Q4A (SP.sS s1) ok.inv.lok hx 2 hp (by decide) (by omega))
structure FO.New (q:FO):Prop where
 N:q.N=[]
 next:q.next=0
 ok:q.Ok
theorem Z8A {w:World} {H:HL} (h:Sep w H):Calls prog 72 #[] w fun r w'=>∃q:FO,r=.returned (.pointer (some ⟨q.f,0,none⟩))/\q.New/\Step H (q.hl++H) w w':=by
 have s1:=h.newMap;have s2:=s1.sep.newMap;have s3:=s2.sep.new 282 [.map (some w.heap.size),.map (some (w.alloc (.map #[] 0)).heap.size),.int .i64 0];have HQ:Hid (∃q:FO,q.f=((w.alloc (.map #[] 0)).alloc (.map #[] 0)).heap.size/\q.New/\Step H (q.hl++H) w (((w.alloc (.map #[] 0)).alloc (.map #[] 0)).alloc (.cells #[.map (some w.heap.size),.map (some (w.alloc (.map #[] 0)).heap.size),.int .i64 0] 282))):=by
  refine⟨⟨((w.alloc (.map #[] 0)).alloc (.map #[] 0)).heap.size,w.heap.size,(w.alloc (.map #[] 0)).heap.size,[],0,fun _=>none⟩,rfl,⟨rfl,rfl,⟨⟨List.Pairwise.nil,List.Pairwise.nil,J5Q _,fun e h=>(by cases h),fun e h=>(by cases h),fun e h=>(by cases h),fun e h=>(by cases h),fun e h=>(by cases h),fun e h=>(by cases h)⟩,(by show (0:Int)<1099511627776;decide),fun e h=>(by cases h),J3O _⟩⟩,?_⟩;refine ((s1.trans s2).trans s3).perm (J5f _) ?_;refine Q1e fun a=>?_
  simp only [FO.hl,FO.head,hc_append,hc_cons,kvs,okv,isMI,isMS,J4s,J5O];simp only [J0S];omega
 clear h s1 s2 s3;have Bh:(w.alloc (.map #[] 0)).heap.size=w.heap.size+1:=by simp
 have Bf:((w.alloc (.map #[] 0)).alloc (.map #[] 0)).heap.size=w.heap.size+1+1:=by simp
 rw [Bh,Bf] at HQ;have KV:=@run_makeMap prog;go_enter func72,ntmps72;go_wp2_with fail;obtain⟨q,e,h1,h2⟩:=HQ.out;have e2:Ending.returned (.pointer (some ⟨w.heap.size+1+1,0,none⟩))=Ending.returned (.pointer (some ⟨q.f,0,none⟩)):=by rw [e]
 first|exact⟨q,e2,h1,h2⟩|(go_ret;exact⟨q,e2,h1,h2⟩)
structure SP.New (Z:SP) (S:CO) (tb:Nat->TB):Prop where
 S:Z.S=S
 tb:Z.tb=tb
 F:Z.F.New
theorem Z1P {w:World} {S:CO} (h:Sep w S.hl) (tb:Nat->TB):Calls prog 17 #[.pointer (some ⟨S.c,0,none⟩)] w fun r w'=>∃Z:SP,r=.returned (.pointer (some ⟨Z.s,0,none⟩))/\Z.New S tb/\Step S.hl Z.hl w w':=by
 have kf:=Z8A h;have HQ:Hid (∀(q:FO) (w1:World),q.New->Step S.hl (q.hl++S.hl) w w1->∃Z:SP,Z.s=w1.heap.size/\Z.New S tb/\Step S.hl Z.hl w (w1.alloc (.cells #[.pointer (some ⟨S.c,0,none⟩),.pointer (some ⟨q.f,0,none⟩)] 152))):=fun q w1 hq st=>by
  refine⟨⟨w1.heap.size,S,tb,q⟩,rfl,⟨rfl,rfl,hq⟩,?_⟩;refine (st.trans (st.sep.new 152 [ptr S.c,ptr q.f])).perm (J5f _) ?_;refine Q1e fun a=>?_
  simp only [SP.hl,SP.head,hc_append,hc_cons];omega
 clear h;go_enter func17,ntmps17;go_wp2_with fail;refine kf.mono ?_;rintro r w1 ⟨q,rfl,hq,st⟩;obtain⟨Z,e,h1,h2⟩:=HQ.out q w1 hq st;have HZ:Hid (Z.New S tb/\Step S.hl Z.hl w (w1.alloc (.cells #[.pointer (some ⟨S.c,0,none⟩),.pointer (some ⟨q.f,0,none⟩)] 152))):=⟨h1,h2⟩
 clear hq st h1 h2 HQ kf;go_wp2_with fail;have e2:Ending.returned (.pointer (some ⟨w1.heap.size,0,none⟩))=Ending.returned (.pointer (some ⟨Z.s,0,none⟩)):=by rw [e]
 first|exact⟨Z,e2,HZ.out.1,HZ.out.2⟩|(go_ret;exact⟨Z,e2,HZ.out.1,HZ.out.2⟩)
theorem SP.New.ok {Z:SP} {S:CO} {tb:Nat->TB} (h:Z.New S tb) {fr:List Nat} {N K:Nat} (ok:S.Ok fr N K) (t:TPI S tb) (hn:∀i,i<256->(tb i).Nil):Z.Ok fr N K 0:=by
 have AU:∀x s,Q0f S.l tb x s=none:=fun x s=>by
  unfold Q0f;split
  ·split
   ·rename_i hc;exact (hn _ (J4S _ (by omega))).2 s hc.2
   ·rfl
  ·rfl
 refine⟨by rw [h.S];exact ok,by rw [h.S,h.tb];exact t,?_,h.F.ok,by rw [h.F.next];exact J5Q _⟩;rw [h.S,h.tb,h.F.N];exact⟨fun x s e he=>(by rw [AU] at he;cases he),fun x s e he=>(by rw [AU] at he;cases he),fun n hn=>(by cases hn),fun n hn=>by cases hn⟩
theorem TPI.emp {S:CO} {fr:List Nat} {N K:Nat} (ok:S.Ok fr N K) (h2:∀(i:Nat) (p:Pl),S.l[i]?=some p->¬(p.st=1/\p.kind=2)) (h7:S.P.usedOf 7=[]) (h6:S.P.usedOf 6=[]) (hx:∀id,S.xc id=0):TPI S fun _=>TB.emp:=by
 have l0:Q3j (fun _=>TB.emp)=[]:=by
  unfold Q3j;simp only [TB.emp_nil.lists.1];generalize List.range 256=L
  induction L with
  | nil=>rfl
  | cons a r ih=>rw [J2i,ih];rfl
 have n0:Q4c (fun _=>TB.emp)=[]:=by
  unfold Q4c;simp only [TB.emp_nil.lists.2.1];generalize List.range 256=L
  induction L with
  | nil=>rfl
  | cons a r ih=>rw [J2i,ih];rfl
 refine⟨fun i p hi h1 hk=>absurd ⟨h1,hk⟩ (h2 i p hi),fun i _=>TB.emp_nil.full,fun i p _ _=>TB.emp_nil,by rw [l0,h7],by rw [n0,h6],fun id=>?_⟩;rw [hx];unfold xcOf;have:∀i,xcP (fun _=>TB.emp) id i S.l[i]?=0:=fun i=>by
  unfold xcP;split
  ·split
   ·exact TB.emp_nil.lists.2.2
   ·rfl
  ·rfl
 simp only [this];generalize List.range 256=L
 induction L with
 | nil=>rfl
 | cons a r ih=>rw [J1O,J5y];omega
def J0m (Z:SP) (fr:List Nat) (N K:Nat) (own:Int) (i s:Nat) (o:Option Ent) (w w':World):Prop:=∃S' t',TurnP Z.S fr N K Z.tb own i s o S' t'/\Step Z.hl (Z.setS S' (updT Z.tb i t')).hl w w'
def WhyL (Z:SP) (fr:List Nat) (own:Int) (i s:Nat) (er:Int):Prop:=
 (er=5/\∃e,find Z.S.P.q.E own=some e/\Q0w e<48)∨(er=4/\NoRoom Z.S.P 6) ∨
 ∃a P1,GetOk Z.S.P fr own 6 a P1/\(Z.tb i).lf (s/16)=0/\((er=5/\∃e,find P1.q.E own=some e/\Q0w e<256)∨(er=4/\NoRoom P1 7))
def LayR (Z:SP) (fr:List Nat) (N K:Nat) (own:Int) (i s h r:Nat) (w:World) (er:Int) (w':World):Prop:=
 (er=0/\∃nd,J0m Z fr N K own i s (some ⟨h,r,nd⟩) w w')∨((er=4∨er=5)/\WhyL Z fr own i s er/\∃P',Tried Z.S.P fr Z.S.l P'/\Step Z.hl (Z.setS (Z.S.setP P') Z.tb).hl w w')
theorem Z1Q {S:CO} {fr:List Nat} {N K:Nat} {tb:Nat->TB} {own:Int} {xl xn xn':List Nat} (ok:S.Ok fr N K) (t:TPX S tb own xl xn) {i s:Nat} {p:Pl} (hi:S.l[i]?=some p) (h1:p.st=1) (h2:p.kind=2) (Ag:(p.fac:Int)=own) (hs:s<256) {e:Ent} (hn:(xn'++((tb i).setE s (some e)).nds).Perm (xn++(tb i).nds))
  (hA:Q0t (some e)<18446744073709551616) (hB:Q0V (some e)<18446744073709551616) {w:World} {g:Nat} (AA:Sep w S.hl) (hg:TblC S p g w) :
  Calls prog 104 #[.pointer (some ⟨g,0,none⟩),.int .i64 s,.int .u64 (Q0t (some e):Nat),.int .u64 (Q0V (some e):Nat)] w (SetR S fr N K tb own xl xn' i s (some e) w):=by
 by_cases hl:(tb i).lf (s/16)=0
 ·obtain⟨ac,F8⟩:=Q9b ok hi h1;rw [Ag] at F8;exact Z8s ok t hi h1 h2 Ag hs hl F8 hn hA hB AA hg
 ·exact Z8r ok t hi h1 h2 Ag hs hl hn hA hB AA hg
theorem Put1.turn {S:CO} {fr:List Nat} {N K:Nat} {tb:Nat->TB} {own:Int} {i s:Nat} {o:Option Ent} {w w':World} (h:Put1 S fr N K tb own [] [] i s o w w') (hf:∀j,j<256->(tb j).Full):J1d S fr N K tb own i s o w w':=by
 obtain⟨S',t',ok,t,en,full,lf,al,st⟩:=h;refine⟨S',t',⟨ok,t.done fun j hj=>?_,en,lf,al⟩,st⟩;by_cases e:j=i
 ·subst e;rw [updT_same];exact full (hf j hj)
 ·rw [Q0W e];exact hf j hj
theorem TurnP.after {S S1:CO} {fr:List Nat} {N K:Nat} {tb:Nat->TB} {own:Int} {i s:Nat} {o:Option Ent} {S':CO} {t':TB} (al:Alt S S1 own) (h:TurnP S1 fr N K tb own i s o S' t'):TurnP S fr N K tb own i s o S' t':=⟨h.ok,h.tpi,h.en,h.lf,al.trans h.alt⟩
structure BoxL (Z:SP) (g x f h r B:Nat) (w:World):Prop where
 x:AsideV Z.hl [.pointer (some ⟨g,0,none⟩),.int .u32 x,.int .i64 f] (some ⟨B,0,none⟩) w
 c:AsideV Z.hl [.int .u32 h,.int .i64 r] (some ⟨B+1,0,none⟩) w
theorem BoxL.step {Z Z':SP} {g x f h r B:Nat} {w w':World} (b:BoxL Z g x f h r B w) (st:Step Z.hl Z'.hl w w'):BoxL Z' g x f h r B w':=⟨b.x.step st,b.c.step st⟩
theorem AsideV.at {H:HL} {cs:List Value} {b:Nat} {w:World} (h:AsideV H cs (some ⟨b,0,none⟩) w) (j:Nat) (v:Value) (hj:cs[j]?=some v):w.cell? ⟨b,j,none⟩=some v:=by
 obtain⟨g,e,_,_,hc⟩:=h j v hj;cases e;exact hc
def HeldL (Z:SP) (g f h r B:Nat) (w':World):Prop:=w'.cell? ⟨Z.s,0,none⟩=some (.pointer (some ⟨Z.S.c,0,none⟩))/\w'.cell? ⟨B,0,none⟩=some (.pointer (some ⟨g,0,none⟩))/\w'.cell? ⟨B,2,none⟩=some (.int .i64 f)/\w'.cell? ⟨B+1,0,none⟩=some (.int .u32 h)/\w'.cell? ⟨B+1,1,none⟩=some (.int .i64 r)
theorem BoxL.held {Z:SP} {g x f h r B:Nat} {w:World} (b:BoxL Z g x f h r B w) (hs:Sep w Z.hl):HeldL Z g f h r B w:=⟨SP.c0 hs,b.x.at 0 _ rfl,b.x.at 2 _ rfl,b.c.at 0 _ rfl,b.c.at 1 _ rfl⟩
theorem HeldL.grown {Z:SP} {g f h r B:Nat} {w w':World} (b:HeldL Z g f h r B w) (hb:Below w.heap.size w w'):HeldL Z g f h r B w':=by
 obtain⟨a1,a2,a3,a4,a5⟩:=b;have k:∀{p:Addr} {v:Value},w.cell? p=some v->w'.cell? p=some v:=fun {p v} e=>(hb.cell (World.block_lt_of_cell? w p e)).trans e
 exact⟨k a1,k a2,k a3,k a4,k a5⟩
theorem Z6h {w w1:World} {Z:SP} {fr:List Nat} {N K:Nat} (hs:Sep w Z.hl) (hb:Below w.heap.size w w1) (ok:Z.S.Ok fr N K) (t:TPI Z.S Z.tb) {i s x g B h r:Nat} {p:Pl} (hi:Z.S.l[i]?=some p) (h1:p.st=1) (h2:p.kind=2) (A6:s<256) (h0:(Z.tb i).en s=none) (hh:h<4294967295) (hr:r<16)
  (hg:TblZ Z p g w1) (BX:BoxL Z g x p.fac h r B w1) :
  Calls prog 65 #[.pointer (some ⟨Z.S.P.p,0,none⟩),.int .i64 (p.fac:Int),.int .i64 6] w1 fun rv w2=>HeldL Z g p.fac h r B w2/\∃a er:Int,rv=.returned (.tuple #[.int .i64 a,.int .i64 er]) /\
   (((er=4∨er=5)/\LayR Z fr N K p.fac i s h r w er w2) ∨
    ∃A:Nat,a=(A:Int)/\er=0/\A<=1073741824/\∀w3,Below w2.heap.size w2 w3 ->
    Calls prog 104 #[.pointer (some ⟨g,0,none⟩),.int .i64 s,.int .u64 ((⟨h,r,0⟩:Ent).a:Nat),.int .u64 A] w3 fun rv w4=>HeldL Z g p.fac h r B w4/\∃er:Int,rv=.returned (.int .i64 er) /\
     ((er=0/\LayR Z fr N K p.fac i s h r w 0 w4)∨((er=4∨er=5)/\∀w5,Below w4.heap.size w4 w5 ->
      Calls prog 49 #[.pointer (some ⟨Z.S.c,0,none⟩)] w5 (fun r w'=>r=.returned (.pointer (some ⟨Z.S.P.p,0,none⟩))/\w5=w') /\
      Calls prog 159 #[.pointer (some ⟨Z.S.P.p,0,none⟩),.int .i64 (p.fac:Int),.int .i64 6,.int .i64 A] w5 fun rv w6=>rv=.returned (.int .i64 0)/\HeldL Z g p.fac h r B w6/\LayR Z fr N K p.fac i s h r w er w6))):=by
 have s1:=(hs.grown hb).sep;have N4:Q1h 6=48:=costs_67.1;have AS:∃q∈Z.S.l,q.st=1/\(q.fac:Int)=(p.fac:Int):=⟨p,J4a hi,h1,rfl⟩
 have An:=Q1r ok.inv.len hi;refine (Q5E (CO.sP (SP.sS s1)) ok.inv.mem.pool (p.fac:Int) 6).mono ?_;rintro rv w2 Lv;have zstep:∀{P':PL},P'.p=Z.S.P.p->Step Z.S.P.hl P'.hl w1 w2->Step Z.hl (Z.setS (Z.S.setP P') Z.tb).hl w w2:=fun {P'} e st=>(hs.grown hb).trans (SP.stepS s1 _ _ rfl (CO.stepP (SP.sS s1) P' e st))
 rcases Lv with ⟨Dd,_⟩|⟨_,Aq,_⟩|⟨_,⟨e,he,A7⟩,rfl,st⟩|⟨n,ac,hk,Un,SN,F8,Ix,Lg⟩
 ·rw [N4] at Dd;omega
 ·obtain⟨e,he⟩:=Q9b ok hi h1;rw [Aq] at he;cases he
 ·have st':=zstep rfl st;refine⟨(BX.step (SP.stepS s1 _ _ rfl (CO.stepP (SP.sS s1) Z.S.P rfl st))).held st'.sep,0,5,rfl,.inl ⟨.inr rfl,.inr ⟨.inr rfl,.inl ⟨rfl,e,he,?_⟩,Z.S.P,Tried.refl ok.inv.mem.pool _,st'⟩⟩⟩;rw [N4] at A7;exact A7
 ·obtain rfl:n=6:=by omega
  rcases Lg with ⟨A,P1,rfl,g6,st⟩|⟨Aq,rfl,st⟩
  ·have Gx:Step Z.hl (Z.setS (Z.S.setP P1) Z.tb).hl w w2:=zstep g6.p st;obtain⟨ok1,t1⟩:=TPX.got ok (t.x (p.fac:Int)) (.inl rfl) g6 AS;rw [if_neg (by decide),if_pos rfl] at t1;have al1:=Alt.got ok g6;have st1:Step Z.hl (Z.setS (Z.S.paid P1 (p.fac:Int) ((Q0c 6:Nat):Int)) Z.tb).hl w w2:=Gx;have RD:A∈P1.usedOf 6:=by
    obtain⟨X,Y,_,e2⟩:=g6.used;rw [e2];simp
   have Sj:=Q0m ok1.inv.mem.pool RD;have GM:=Q0o ok1.inv.mem.pool;have SZ:A+Q0c 6<=P1.a.mem.length:=Sj.1;have P4:P1.a.mem.length<=1073741824:=GM;have CR:BoxL (Z.setS (Z.S.paid P1 (p.fac:Int) ((Q0c 6:Nat):Int)) Z.tb) g x p.fac h r B w2:=BX.step (Z':=Z.setS (Z.S.paid P1 (p.fac:Int) ((Q0c 6:Nat):Int)) Z.tb) (SP.stepS s1 _ _ rfl (CO.stepP (SP.sS s1) P1 g6.p st));have C5:TblZ (Z.setS (Z.S.paid P1 (p.fac:Int) ((Q0c 6:Nat):Int)) Z.tb) p g w2:=hg.step (Z':=Z.setS (Z.S.paid P1 (p.fac:Int) ((Q0c 6:Nat):Int)) Z.tb) (SP.stepS s1 _ _ rfl (CO.stepP (SP.sS s1) P1 g6.p st)) g6.p;refine⟨CR.held st1.sep,(A:Int),0,rfl,.inr ⟨A,rfl,rfl,by omega,fun w3 Ar=>?_⟩⟩
   have st3:=st1.trans (st1.sep.grown Ar);have Kg:=(C5.grown st1.sep Ar).c;have If:=CR.step (st1.sep.grown Ar);have C1:([]++((Z.tb i).setE s (some ⟨h,r,A⟩)).nds).Perm ([A]++(Z.tb i).nds):=TB.nds_set A6 (e:=⟨h,r,A⟩) h0;have Of:Q0t (some (⟨h,r,A⟩:Ent))<18446744073709551616:=by
    show h+1+4294967296*r<_;omega
   refine (Z1Q ok1 t1 (show (Z.S.paid P1 (p.fac:Int) ((Q0c 6:Nat):Int)).l[i]?=some p from hi) h1 h2 rfl A6 C1 Of (by show A<_;omega) (SP.sS st3.sep) Kg).mono ?_;rintro rv w4 (⟨rfl,B8⟩|⟨EV,st,F7⟩)
   ·obtain⟨S',t',T,stt⟩:=B8.turn t.full;have T0:=T.after al1;have stz:Step Z.hl (Z.setS S' (updT Z.tb i t')).hl w w4:=st3.trans (SP.stepS st3.sep S' (updT Z.tb i t') (T.alt.c) stt);refine⟨?_,0,rfl,.inl ⟨rfl,.inl ⟨rfl,A,S',t',T0,stz⟩⟩⟩;have Az:=If.step (SP.stepS st3.sep S' (updT Z.tb i t') T.alt.c stt);have:=Az.held stz.sep;exact⟨by rw [<- T0.alt.c];exact this.1,this.2⟩
   ·have st4:Step Z.hl (Z.setS (Z.S.paid P1 (p.fac:Int) ((Q0c 6:Nat):Int)) Z.tb).hl w w4:=st3.trans (SP.stepS st3.sep _ _ rfl st);have Lw:=If.step (SP.stepS st3.sep (Z.S.paid P1 (p.fac:Int) ((Q0c 6:Nat):Int)) Z.tb rfl st);have Aj:∃er:Int,rv=.returned (.int .i64 er)/\(er=4∨er=5)/\WhyL Z fr p.fac i s er:=by
     rcases F7 with ⟨Aq,rfl⟩|⟨⟨e,he,A7⟩,rfl⟩
     ·exact⟨4,rfl,.inl rfl,.inr (.inr ⟨A,P1,g6,EV,.inr ⟨rfl,Aq⟩⟩)⟩
     ·exact⟨5,rfl,.inr rfl,.inr (.inr ⟨A,P1,g6,EV,.inl ⟨rfl,e,he,A7⟩⟩)⟩
    obtain⟨er,rfl,Cs,hw⟩:=Aj;refine⟨Lw.held st4.sep,er,rfl,.inr ⟨Cs,fun w5 AD=>?_⟩⟩;have st5:=st4.trans (st4.sep.grown AD);have NT:=Lw.step (st4.sep.grown AD);have km:=Q2d (SP.sS st5.sep);have GP:(Z.S.paid P1 (p.fac:Int) ((Q0c 6:Nat):Int)).P.p=Z.S.P.p:=g6.p;refine⟨?_,?_⟩
    ·have:=km;rw [show ((Z.setS (Z.S.paid P1 (p.fac:Int) ((Q0c 6:Nat):Int)) Z.tb).S.P.p)=Z.S.P.p from g6.p] at this;exact this
    obtain⟨ac1,Gz⟩:=Q9b ok1 (show (Z.S.paid P1 (p.fac:Int) ((Q0c 6:Nat):Int)).l[i]?=some p from hi) h1;have LU:=t1.paid ok1 Gz;rw [J4l,J5N] at LU;obtain⟨c,hc⟩:=PL.cls ok1.inv.mem.pool (by omega:1<=6) (by omega);have kp:=Q4t (CO.sP (SP.sS st5.sep)) ok1.inv.mem.pool (p.fac:Int) Gz 6 (by rw [Q5e];omega) c hc A (by rw [<- Q0T hc];exact RD) (by omega);rw [show ((Z.setS (Z.S.paid P1 (p.fac:Int) ((Q0c 6:Nat):Int)) Z.tb).S.P.p)=Z.S.P.p from g6.p] at kp;refine kp.mono ?_;rintro rv w6 ⟨rfl,P2,b6,stp⟩;have tr:Tried Z.S.P fr Z.S.l P2:=(g6.gotM ok.inv.mem.pool).back ok.inv.mem (b6.backM ok1.inv.mem.pool)
    have stz:Step Z.hl (Z.setS (Z.S.setP P2) Z.tb).hl w w6:=st5.trans (SP.stepS st5.sep _ _ rfl (CO.stepP (SP.sS st5.sep) P2 b6.p stp));have Pn:=NT.step (Z':=Z.setS (Z.S.setP P2) Z.tb) (SP.stepS st5.sep _ _ rfl (CO.stepP (SP.sS st5.sep) P2 b6.p stp));exact⟨rfl,Pn.held stz.sep,.inr ⟨Cs,hw,P2,tr,stz⟩⟩
  ·have st':=zstep rfl st;exact⟨(BX.step (SP.stepS s1 _ _ rfl (CO.stepP (SP.sS s1) Z.S.P rfl st))).held st'.sep,0,4,rfl,.inl ⟨.inl rfl,.inr ⟨.inl rfl,.inr (.inl ⟨rfl,Aq⟩),Z.S.P,Tried.refl ok.inv.mem.pool _,st'⟩⟩⟩
theorem Q6s (w:World) (h r:Nat) (hh:h<4294967295) (hr:r<16):Calls prog 105 #[.agg #[.int .u32 h,.int .i64 r]] w (Told w (.int .u64 ((⟨h,r,0⟩:Ent).a:Nat))):=by
 have hn:=Z8y h r hh hr;have hA:=Cells.new w 35 [.int .u32 h,.int .i64 r];have a0:=hA.cell 0 _ rfl;have a1:=hA.cell 1 _ rfl;have hb:Below w.heap.size w (w.alloc (.cells #[.int .u32 h,.int .i64 r] 35)):=(Below.refl _ _).alloc (J1L _) _;have HB:=Q0a hb;have SO:(0:Int)<=(h:Int)/\(h:Int)<4294967295:=by omega
 have IX:(0:Int)<=(r:Int)/\(r:Int)<16:=by omega
 obtain⟨q1,q2⟩:=SO;obtain⟨q3,q4⟩:=IX;generalize ((⟨h,r,0⟩:Ent).a:Nat)=z at *
 clear hA hb hh hr;go_enter func105,ntmps105;go_wp2_with fail
 first|exact⟨rfl,HB.out⟩|(go_ret;exact⟨rfl,HB.out⟩)
theorem Q8d {w:World} {Z:SP} {fr:List Nat} {N K:Nat} (hs:Sep w Z.hl) (ok:Z.S.Ok fr N K) (t:TPI Z.S Z.tb) {i s x g h r:Nat} {p:Pl} (hi:Z.S.l[i]?=some p) (h1:p.st=1) (h2:p.kind=2) (A6:s<256) (h0:(Z.tb i).en s=none) (hh:h<4294967295) (hr:r<16) (hg:TblZ Z p g w) :
  Calls prog 78 #[.pointer (some ⟨Z.s,0,none⟩),.agg #[.pointer (some ⟨g,0,none⟩),.int .u32 x,.int .i64 (p.fac:Int)],.int .i64 s,.agg #[.int .u32 h,.int .i64 r]] w fun rv w'=>∃er:Int,rv=.returned (.int .i64 er)/\LayR Z fr N K p.fac i s h r w er w':=by
 have hb:Below w.heap.size w ((w.alloc (.cells #[.pointer (some ⟨g,0,none⟩),.int .u32 x,.int .i64 (p.fac:Int)] 155)).alloc (.cells #[.int .u32 h,.int .i64 r] 35)):=((Below.refl _ _).alloc (J1L _) _).alloc (by simp) _;have BX:BoxL Z g x p.fac h r w.heap.size ((w.alloc (.cells #[.pointer (some ⟨g,0,none⟩),.int .u32 x,.int .i64 (p.fac:Int)] 155)).alloc (.cells #[.int .u32 h,.int .i64 r] 35)):=by
  refine⟨fun j v hj=>⟨w.heap.size,rfl,fun hk=>by have:=hs.lt hk;omega,by simp;omega,?_⟩,fun j v hj=>⟨w.heap.size+1,rfl,fun hk=>by have:=hs.lt hk;omega,by simp,?_⟩⟩
  ·exact ((Cells.new w 155 [.pointer (some ⟨g,0,none⟩),.int .u32 x,.int .i64 (p.fac:Int)]).alloc _).cell j v hj
  ·have:=(Cells.new (w.alloc (.cells #[.pointer (some ⟨g,0,none⟩),.int .u32 x,.int .i64 (p.fac:Int)] 155)) 35 [.int .u32 h,.int .i64 r]).cell j v hj
   simpa using this
 have Kl:Hid (∀w1,Below ((w.alloc (.cells #[.pointer (some ⟨g,0,none⟩),.int .u32 x,.int .i64 (p.fac:Int)] 155)).alloc (.cells #[.int .u32 h,.int .i64 r] 35)).heap.size ((w.alloc (.cells #[.pointer (some ⟨g,0,none⟩),.int .u32 x,.int .i64 (p.fac:Int)] 155)).alloc (.cells #[.int .u32 h,.int .i64 r] 35)) w1->HeldL Z g p.fac h r w.heap.size w1/\Calls prog 49 #[.pointer (some ⟨Z.S.c,0,none⟩)] w1 (fun r w'=>r=.returned (.pointer (some ⟨Z.S.P.p,0,none⟩))/\w1=w')/\_):=fun w1 Ax=>by
  have Ak:Below w.heap.size w w1:=hb.trans (Ax.mono (by simp;omega));have s0:=(hs.grown hb).sep;have CR:=BX.step (s0.grown Ax);have s1:=(hs.grown Ak).sep;exact⟨CR.held s1,Q2d (SP.sS s1),Z6h hs Ak ok t hi h1 h2 A6 h0 hh hr (hg.grown hs Ak) CR⟩
 have BS:=(Kl.out _ (Below.refl _ _)).1;have D7:=(Kl.out _ ((Below.refl _ _).drew)).1;have D9:=(Kl.out _ ((Below.refl _ _).drew)).2.1;have CQ:=(Kl.out _ ((Below.refl _ _).drew)).2.2;have De:=Q0a CQ;have Jp:Hid (∀w,Calls prog 105 #[.agg #[.int .u32 h,.int .i64 r]] w (Told w (.int .u64 ((⟨h,r,0⟩:Ent).a:Nat)))):=fun w=>Q6s w h r hh hr
 clear Kl BX hb hs ok t hi h1 h2 h0 hg CQ;generalize LayR Z fr N K p.fac i s h r w=Q at *
 unfold HeldL at BS D7;go_enter func78,ntmps78;go_wp2_with fail
 go_region_held3 (fun w'=>w'.cell? ⟨Z.s,0,none⟩=some (.pointer (some ⟨Z.S.c,0,none⟩))/\w'.cell? ⟨w.heap.size,0,none⟩=some (.pointer (some ⟨g,0,none⟩))/\w'.cell? ⟨w.heap.size,2,none⟩=some (.int .i64 (p.fac:Int))/\w'.cell? ⟨w.heap.size+1,0,none⟩=some (.int .u32 h)/\w'.cell? ⟨w.heap.size+1,1,none⟩=some (.int .i64 r)) (first|exact BS|exact D7|exact Al)
  (first|(go_at_call 49;refine D9.mono ?_;rintro r w' ⟨rfl,rfl⟩)|(go_at_call 65;refine De.out.mono ?_;rintro r w2 ⟨Al,a,er,rfl,hy⟩;have HY:=Q0a hy;clear hy De))
 rcases HY.out with ⟨Cs,hq⟩|⟨A,rfl,rfl,hA,hy⟩
 ·have HQ:=Q0a hq;clear hq HY BS D7 D9 Jp Al;rcases Cs with rfl|rfl
  all_goals
   go_wp2_with fail
   first|exact⟨_,rfl,HQ.out⟩|(go_ret;exact⟨_,rfl,HQ.out⟩)
 ·have HS:=Q0a hy;have Oq:(0:Int)<=(A:Int):=by omega
  have R6:(A:Int)<=1073741824:=by omega
  have OW:IntKind.u64.wrap (A:Int)=(A:Int):=by rw [IntKind.wrap_u64];omega
  have Pf:IntKind.i64.wrap (A:Int)=(A:Int):=Go.IntWalk.i64_in _ (by omega);have Eb:HeldL Z g p.fac h r w.heap.size w2.drew:=Al;generalize ((⟨h,r,0⟩:Ent).a:Nat)=za at *
  clear hy HY BS D7 D9 hA;unfold HeldL at Al Eb;go_wp2_with fail
  go_region_held3 (fun w'=>w'.cell? ⟨Z.s,0,none⟩=some (.pointer (some ⟨Z.S.c,0,none⟩))/\w'.cell? ⟨w.heap.size,0,none⟩=some (.pointer (some ⟨g,0,none⟩))/\w'.cell? ⟨w.heap.size,2,none⟩=some (.int .i64 (p.fac:Int))/\w'.cell? ⟨w.heap.size+1,0,none⟩=some (.int .u32 h)/\w'.cell? ⟨w.heap.size+1,1,none⟩=some (.int .i64 r)) (first|exact Al|exact Eb|exact Gr|exact AT)
   (first|(go_at_call 105;refine (Jp.out _).mono ?_;rintro r w3 ⟨rfl,Ar⟩;have Gr:=HeldL.grown Eb Ar;have G3:=Q0a Ar;clear Ar Jp)|(go_at_call 104;refine (HS.out _ (((Below.refl w2.heap.size w2).drew).trans G3.out)).mono ?_;rintro r w4 ⟨AT,er,rfl,hz⟩;have HZ:=Q0a hz;clear hz HS))
  rcases HZ.out with ⟨rfl,hq⟩|⟨Cs,hy⟩
  ·have HQ:=Q0a hq;clear hq HZ Al Eb Gr AT;go_wp2_with fail
   first|exact⟨_,rfl,HQ.out⟩|(go_ret;exact⟨_,rfl,HQ.out⟩)
  ·have L1:HeldL Z g p.fac h r w.heap.size w4.drew:=AT;have D9:=(hy _ ((Below.refl _ _).drew)).1;have HP:=Q0a (hy _ ((Below.refl _ _).drew)).2;have FX:(er==0)=false:=by rcases Cs with rfl|rfl <;> rfl
   clear hy HZ Al Eb Gr Cs;unfold HeldL at AT L1;go_wp2_with fail
   go_region_held3 (fun w'=>w'.cell? ⟨Z.s,0,none⟩=some (.pointer (some ⟨Z.S.c,0,none⟩))/\w'.cell? ⟨w.heap.size,0,none⟩=some (.pointer (some ⟨g,0,none⟩))/\w'.cell? ⟨w.heap.size,2,none⟩=some (.int .i64 (p.fac:Int))/\w'.cell? ⟨w.heap.size+1,0,none⟩=some (.int .u32 h)/\w'.cell? ⟨w.heap.size+1,1,none⟩=some (.int .i64 r)) (first|exact AT|exact L1|exact N4)
    (first|(go_at_call 49;refine D9.mono ?_;rintro r w' ⟨rfl,rfl⟩)|(go_at_call 159;refine HP.out.mono ?_;rintro r w6 ⟨rfl,N4,hq⟩;have HQ:=Q0a hq;clear hq HP))
   go_wp2_with fail
   first|exact⟨_,rfl,HQ.out⟩|(go_ret;exact⟨_,rfl,HQ.out⟩)
def Z6i (Z:SP) (g f B:Nat) (w':World):Prop:=w'.cell? ⟨Z.s,0,none⟩=some (.pointer (some ⟨Z.S.c,0,none⟩))/\w'.cell? ⟨B,0,none⟩=some (.pointer (some ⟨g,0,none⟩))/\w'.cell? ⟨B,2,none⟩=some (.int .i64 f)
theorem Z3d {w w1:World} {Z:SP} {fr:List Nat} {N K:Nat} (hs:Sep w Z.hl) (hb:Below w.heap.size w w1) (ok:Z.S.Ok fr N K) (t:TPI Z.S Z.tb) {i s x g B:Nat} {p:Pl} {e:Ent} (hi:Z.S.l[i]?=some p) (h1:p.st=1) (h2:p.kind=2) (A6:s<256) (he:(Z.tb i).en s=some e)
  (hg:TblZ Z p g w1) (BX:AsideV Z.hl [.pointer (some ⟨g,0,none⟩),.int .u32 x,.int .i64 (p.fac:Int)] (some ⟨B,0,none⟩) w1) :
  Calls prog 165 #[.pointer (some ⟨g,0,none⟩),.int .i64 s] w1 fun rv w2=>rv=.returned (.int .i64 0)/\Z6i Z g p.fac B w2/\e.nd<=1073741824/\∀w3,Below w2.heap.size w2 w3 ->
   Calls prog 49 #[.pointer (some ⟨Z.S.c,0,none⟩)] w3 (fun r w'=>r=.returned (.pointer (some ⟨Z.S.P.p,0,none⟩))/\w3=w') /\
   Calls prog 159 #[.pointer (some ⟨Z.S.P.p,0,none⟩),.int .i64 (p.fac:Int),.int .i64 6,.int .i64 (e.nd:Int)] w3 fun rv w4=>rv=.returned (.int .i64 0)/\Z6i Z g p.fac B w4/\J0m Z fr N K p.fac i s none w w4:=by
 have s1:=(hs.grown hb).sep;have AS:∃q∈Z.S.l,q.st=1/\(q.fac:Int)=(p.fac:Int):=⟨p,J4a hi,h1,rfl⟩
 have An:=Q1r ok.inv.len hi;refine (Z3c ok (t.x (p.fac:Int)) hi h1 h2 rfl A6 he (SP.sS s1) hg.c).mono ?_;rintro rv w2 ⟨rfl,S1,t',ok1,t1,en,full,lf,al,st⟩;have st1z:=SP.stepS s1 S1 (updT Z.tb i t') al.c st;have st1:Step Z.hl (Z.setS S1 (updT Z.tb i t')).hl w w2:=(hs.grown hb).trans st1z;have CR:=AsideV.step BX st1z;have MJ:e.nd∈S1.P.usedOf 6:=t1.nds.mem_iff.1 (by simp);have hm:=Q0m ok1.inv.mem.pool MJ;have GM:=Q0o ok1.inv.mem.pool;have BS:∀{w3:World} {Z':SP},Z'.s=Z.s->Z'.S.c=Z.S.c->Sep w3 Z'.hl->AsideV Z'.hl [.pointer (some ⟨g,0,none⟩),.int .u32 x,.int .i64 (p.fac:Int)] (some ⟨B,0,none⟩) w3->Z6i Z g p.fac B w3:=fun {w3 Z'} e1 e2 hz hx=>by
  have:=SP.c0 hz;rw [e1,e2] at this;exact⟨this,hx.at 0 _ rfl,hx.at 2 _ rfl⟩
 refine⟨rfl,BS (Z':=Z.setS S1 (updT Z.tb i t')) rfl al.c st1.sep CR,by omega,fun w3 Ar=>?_⟩;have st3:=st1.trans (st1.sep.grown Ar);have If:=AsideV.step CR (st1.sep.grown Ar);have Gi:S1.l[i]?=some p:=by rw [al.l];exact hi
 have km:=Q2d (SP.sS st3.sep);have GP:(Z.setS S1 (updT Z.tb i t')).S.P.p=Z.S.P.p:=al.same.p;have A8:(Z.setS S1 (updT Z.tb i t')).S.c=Z.S.c:=al.c;rw [GP,A8] at km;refine⟨km,?_⟩;obtain⟨ac1,Gz⟩:=Q9b ok1 Gi h1;have LU:=t1.paid ok1 Gz;rw [J4l,J5N] at LU;obtain⟨c,hc⟩:=PL.cls ok1.inv.mem.pool (by omega:1<=6) (by omega);have kp:=Q4t (CO.sP (SP.sS st3.sep)) ok1.inv.mem.pool (p.fac:Int) Gz 6 (by rw [Q5e];omega) c hc e.nd (by rw [<- Q0T hc];exact MJ) (by omega);rw [GP] at kp;refine kp.mono ?_;rintro rv w4 ⟨rfl,P2,b6,stp⟩;have Ms:∃q∈S1.l,q.st=1/\(q.fac:Int)=(p.fac:Int):=by rw [al.l];exact AS
 obtain⟨ok2,t2⟩:=TPX.put (xl:=[]) (xn:=[]) ok1 (.inl rfl) (by rw [if_neg (by decide),if_pos rfl];exact t1) b6 Ms;have al2:=al.trans (Alt.put ok1 b6);have stz:Step (Z.setS S1 (updT Z.tb i t')).hl ((Z.setS S1 (updT Z.tb i t')).setS (S1.paid P2 (p.fac:Int) (-((Q0c 6:Nat):Int))) (updT Z.tb i t')).hl w3 w4:=SP.stepS st3.sep _ _ rfl (CO.stepPaid (SP.sS st3.sep) P2 (p.fac:Int) _ b6.p stp);have stf:Step Z.hl (Z.setS (S1.paid P2 (p.fac:Int) (-((Q0c 6:Nat):Int))) (updT Z.tb i t')).hl w w4:=st3.trans stz;refine⟨rfl,BS (Z':=Z.setS (S1.paid P2 (p.fac:Int) (-((Q0c 6:Nat):Int))) (updT Z.tb i t')) rfl al2.c stf.sep (AsideV.step If stz),_,t',⟨ok2,t2.done fun j hj=>?_,en,lf,al2⟩,stf⟩
 by_cases ej:j=i
 ·subst ej;rw [updT_same];exact full (t.full j hj)
 ·rw [Q0W ej];exact t.full j hj
theorem Q4N {w:World} {Z:SP} {fr:List Nat} {N K:Nat} (hs:Sep w Z.hl) (ok:Z.S.Ok fr N K) (t:TPI Z.S Z.tb) {i s x g:Nat} {p:Pl} {e:Ent} (hi:Z.S.l[i]?=some p) (h1:p.st=1) (h2:p.kind=2) (A6:s<256) (he:(Z.tb i).en s=some e) (hg:TblZ Z p g w) :
  Calls prog 81 #[.pointer (some ⟨Z.s,0,none⟩),.agg #[.pointer (some ⟨g,0,none⟩),.int .u32 x,.int .i64 (p.fac:Int)],.int .i64 s] w fun rv w'=>rv=.returned (.tuple #[])/\J0m Z fr N K p.fac i s none w w':=by
 have hb:Below w.heap.size w (w.alloc (.cells #[.pointer (some ⟨g,0,none⟩),.int .u32 x,.int .i64 (p.fac:Int)] 155)):=(Below.refl _ _).alloc (J1L _) _;have BX:AsideV Z.hl [.pointer (some ⟨g,0,none⟩),.int .u32 x,.int .i64 (p.fac:Int)] (some ⟨w.heap.size,0,none⟩) (w.alloc (.cells #[.pointer (some ⟨g,0,none⟩),.int .u32 x,.int .i64 (p.fac:Int)] 155)):=fun j v hj=>⟨w.heap.size,rfl,fun hk=>by have:=hs.lt hk;omega,by simp,(Cells.new w 155 [.pointer (some ⟨g,0,none⟩),.int .u32 x,.int .i64 (p.fac:Int)]).cell j v hj⟩
 have T1:=(t.x (p.fac:Int)).tt ok hi h1 h2 (SP.sS (hs.grown hb).sep) (hg.grown hs hb).c;have kg:=Q3I T1 (s:Int);rw [show (Z.tb i).at' (s:Int)=some e by unfold TB.at';rw [if_pos ⟨by omega,by omega⟩,J2R,he]] at kg;have kc:=Z3d hs hb ok t hi h1 h2 A6 he (hg.grown hs hb) BX;have HK:=Q0a kc;have b0:=BX.at 0 _ rfl;unfold getV Q0V at kg;generalize Q0t (some e)=ca at *
 clear hb hs ok t hi h1 h2 he hg T1 kc BX;go_enter func81,ntmps81;go_wp2_with fail;refine kg.mono ?_;rintro r w1 ⟨rfl,rfl⟩;go_wp2_with fail;refine HK.out.mono ?_;rintro r w2 ⟨rfl,Al,AG,hy⟩;have D9:=(hy _ ((Below.refl _ _).drew)).1;have HP:=Q0a (hy _ ((Below.refl _ _).drew)).2;clear hy HK kg;have GA:Z6i Z g p.fac w.heap.size w2.drew:=Al;generalize e.nd=nd at *
 have Do:(0:Int)<=(nd:Int)/\(nd:Int)<=1073741824:=by omega
 obtain⟨n0,n1⟩:=Do;have OW:IntKind.u64.wrap (nd:Int)=(nd:Int):=by rw [IntKind.wrap_u64];omega
 have Pf:IntKind.i64.wrap (nd:Int)=(nd:Int):=Go.IntWalk.i64_in _ (by omega);unfold Z6i at Al GA;go_wp2_with fail
 go_region_held3 (fun w'=>w'.cell? ⟨Z.s,0,none⟩=some (.pointer (some ⟨Z.S.c,0,none⟩))/\w'.cell? ⟨w.heap.size,0,none⟩=some (.pointer (some ⟨g,0,none⟩))/\w'.cell? ⟨w.heap.size,2,none⟩=some (.int .i64 (p.fac:Int))) (first|exact Al|exact GA|exact Dz)
  (first|(go_at_call 49;refine D9.mono ?_;rintro r w' ⟨rfl,rfl⟩)|(go_at_call 159;refine HP.out.mono ?_;rintro r w4 ⟨rfl,Dz,hq⟩;have HQ:=Q0a hq;clear hq HP))
 go_wp2_with fail
 first|exact⟨rfl,HQ.out⟩|(go_end0;exact⟨rfl,HQ.out⟩)
end Go.Proofs.YtlakjlmaboioiaaGreatDoor
