/- CarryPages returns true at every input. No condition. Part of its proof. -/
import Derived.Test.YtfidemmgofcnmaaGreatDoorCg14
set_option maxHeartbeats 4000000
set_option maxRecDepth 100000
set_option linter.unusedVariables false
namespace Go.Proofs.YtfidemmgofcnmaaGreatDoor
open Go.RowKit Go.Proofs.Tryz
structure TurnP(S:CO)(fr:List Nat)(N K:Nat)(tb:Nat->TB)(own:Int)(i s:Nat)(o:Option Ent)(S':CO)(t':TB):Prop where
 ok:S'.Ok fr N K
 tpi:TPI S' (updT tb i t')
 en:∀x,t'.en x=if x=s then o else(tb i).en x
 lf:∀k,(tb i).lf k=0∨t'.lf k=0∨t'.lf k=(tb i).lf k
 alt:Alt S S' own
def Z9j(S:CO)(fr:List Nat)(N K:Nat)(tb:Nat->TB)(own:Int)(i s:Nat)(o:Option Ent)(w w':World):Prop:=∃S' t',TurnP S fr N K tb own i s o S' t'/\Step S.hl S'.hl w w'
theorem Q8w{l:List Pl}{tb:Nat->TB}(N N':List (En Nd)){h s:Nat}{p:Pl}(hp:pget l 1 h=some p)(hk:p.kind=2)(hs:s<256){t':TB}{o:Option Ent}(ht:∀x,t'.en x=if x=s then o else(tb (h%256)).en x) :
  avOf l (updT tb (h%256) t') N'=⟨setA (avOf l tb N).en h s (o.map Ent.c),N'⟩:=by
 unfold avOf setA;congr 1;funext h' s';rw[Q4b hp hk hs ht];split <;> rfl
theorem Z7M{l:List Pl}{tb:Nat->TB}{N:List (En Nd)}{h s:Nat}{e:Ent}(he:Q0k l tb h s=some e):(avOf l tb N).en h s=some (e.h,e.r):=by
 unfold avOf;simp only[he];rfl
theorem av_none{l:List Pl}{tb:Nat->TB}{N:List (En Nd)}{h s:Nat}:(avOf l tb N).en h s=none↔Q0k l tb h s=none:=by
 unfold avOf;simp
theorem Q6G{l:List Pl}{tb:Nat->TB}{N:List (En Nd)}{h s:Nat}{x:Nat×Nat}(hx:(avOf l tb N).en h s=some x):∃e,Q0k l tb h s=some e/\x=(e.h,e.r):=by
 unfold avOf at hx;simp only at hx;cases he:Q0k l tb h s with
 | none=>rw[he] at hx;cases hx
 | some e=>rw[he] at hx;cases hx;exact⟨e,rfl,rfl⟩
theorem Q5S{m:Nat}{a:AV}{id:Int}{n:En Nd}(hf:find a.N id=some n){h s:Nat}(h1:n.q.sp=(h:Int))(h2:n.q.sl=(s:Int)){x:Nat×Nat}(hx:a.en h s=some x) :
  Z5s m a id=if less x.2 m=0 then(⟨setA a.en h s none,Q0N a.N n n.q.ks.length⟩,true) else(⟨setA a.en h s (some (x.1,less x.2 m)),a.N⟩,false):=by
 unfold Z5s;rw[hf];simp only[h1,h2,J0o,hx]
section
variable {Z:SP} {fr:List Nat} {N K:Nat} {M:Int}
theorem SP.Ok.lifted(ok:Z.Ok fr N K M){id:Int}{n:En Nd}(hf:find Z.F.N id=some n){h s:Nat}{p:Pl}{e:Ent}(h1:n.q.sp=(h:Int))(h2:n.q.sl=(s:Int))(hp:pget Z.S.l 1 h=some p)(hk:p.kind=2)(hs:s<256)(he:Q0k Z.S.l Z.tb h s=some e){m:Nat}(h0:less e.r m=0)
  {S':CO} {t':TB} (T:TurnP Z.S fr N K Z.tb (p.fac:Int) (h%256) s none S' t') {F':FO} (hF:F'.N=Q0N Z.F.N n n.q.ks.length) (Ek:F'.Ok) (Hm:F'.next=Z.F.next) (FM:F'.f=Z.F.f) :
  ((Z.setF F').setS S' (updT Z.tb (h%256) t')).Ok fr N K M/\Z5s m Z.av id=(((Z.setF F').setS S' (updT Z.tb (h%256) t')).av,true)/\Z7L Z ((Z.setF F').setS S' (updT Z.tb (h%256) t')):=by
 have hl:=T.alt.l;have Dq:=Q8w Z.F.N F'.N hp hk hs T.en;obtain⟨n1,n2⟩:=Q0e hf;refine⟨⟨T.ok,T.tpi,?_,Ek,by show F'.next<=M;rw[Hm];exact ok.next⟩,?_,⟨⟨rfl,T.alt.alt0,FM⟩,Hm⟩⟩
 ·show FPI S'.l _ F'.N;rw[hl,hF];exact ok.fpi.lift ok.fo.n hp hk hs T.en (by rw[n2];exact hf) h1 h2
 ·rw[Q5S (a:=Z.av) hf h1 h2 (Z7M he)];simp only;rw[if_pos h0];congr 1;show _=avOf S'.l (updT Z.tb (h%256) t') F'.N;rw[hl,Dq,hF];rfl
theorem SP.Ok.added(ok:Z.Ok fr N K M){h s:Nat}{p:Pl}(hp:pget Z.S.l 1 h=some p)(hk:p.kind=2)(hs:s<256)(h0:Q0k Z.S.l Z.tb h s=none){e:Ent}(hc:Q7v Z.S.l s e)
  {S':CO} {t':TB} (T:TurnP Z.S fr N K Z.tb (p.fac:Int) (h%256) s (some e) S' t') {par:Int} (Bm:par=0∨∃m em,find Z.F.N par=some m/\Q1q Z.S.l Z.tb m=some em/\e.h=em.h/\e.r&&&em.r=e.r) {F':FO} (A:Z3b Z.F par (h:Int) (s:Int) F') :
  ((Z.setF F').setS S' (updT Z.tb (h%256) t')).Ok fr N K (M+1)/\SameN Z ((Z.setF F').setS S' (updT Z.tb (h%256) t'))/\((Z.setF F').setS S' (updT Z.tb (h%256) t')).av.en=setA Z.av.en h s (some (e.h,e.r))/\∃b,((Z.setF F').setS S' (updT Z.tb (h%256) t')).av.N=addN Z.F.N par (Z.F.next+1) b (h:Int) (s:Int):=by
 have hl:=T.alt.l;obtain⟨b,hN⟩:=A.N;have Dq:=Q8w Z.F.N F'.N hp hk hs T.en;have JM:((Z.setF F').setS S' (updT Z.tb (h%256) t')).av=⟨setA Z.av.en h s ((some e).map Ent.c),F'.N⟩:=by
  show avOf S'.l (updT Z.tb (h%256) t') F'.N=_;rw[hl,Dq];rfl
 refine⟨⟨T.ok,T.tpi,?_,A.ok,by show F'.next<=M+1;rw[A.next];have:=ok.next;omega⟩,⟨rfl,T.alt.alt0,A.f⟩,by rw[JM];rfl,b,by rw[JM];exact hN⟩;show FPI S'.l _ F'.N;rw[hl,hN];exact ok.fpi.add ok.fo.n hp hk hs h0 T.en hc b Bm
end
theorem Q4B(w:World)(z:Int):Calls prog 92 #[.int .i64 z] w fun r w'=>r=.returned (.bool (decide (0<=z/\z<256)))/\w=w':=by
 by_cases h0:0<=z
 ·by_cases h1:z<256
  ·rw[decide_eq_true (show 0<=z/\z<256 from⟨h0,h1⟩)];go_enter func92,ntmps92
   go_wp2
   go_ret;exact⟨rfl,rfl⟩
  ·rw[decide_eq_false (show ¬(0<=z/\z<256) from fun h=>h1 h.2)];have hd:decide (z<256)=false:=by simpa using h1
   go_enter func92,ntmps92
   go_wp2
   go_ret;exact⟨rfl,rfl⟩
 ·rw[decide_eq_false (show ¬(0<=z/\z<256) from fun h=>h0 h.1)];have hd:decide (0<=z)=false:=by simpa using h0
  go_enter func92,ntmps92
  go_wp2
  go_ret;exact⟨rfl,rfl⟩
theorem Q5T(w:World)(z:Int):Calls prog 106 #[.int .i64 z] w fun r w'=>r=.returned (.bool (decide (0<z/\z<=15)))/\w=w':=by
 by_cases h0:0<z
 ·by_cases h1:z<=15
  ·rw[decide_eq_true (show 0<z/\z<=15 from⟨h0,h1⟩)];go_enter func106,ntmps106
   go_wp2
   go_ret;exact⟨rfl,rfl⟩
  ·rw[decide_eq_false (show ¬(0<z/\z<=15) from fun h=>h1 h.2)];have hd:decide (z<=15)=false:=by simpa using h1
   go_enter func106,ntmps106
   go_wp2
   go_ret;exact⟨rfl,rfl⟩
 ·rw[decide_eq_false (show ¬(0<z/\z<=15) from fun h=>h0 h.1)];have hd:decide (0<z)=false:=by simpa using h0
  go_enter func106,ntmps106
  go_wp2
  go_ret;exact⟨rfl,rfl⟩
theorem Q2E(w:World)(z:Int):Calls prog 96 #[.int .i64 z] w fun r w'=>r=.returned (.bool (decide (z<128)))/\w=w':=by
 go_enter func96,ntmps96
 go_wp2
 go_ret;exact⟨rfl,rfl⟩
theorem Z5B(h r:Nat)(hh:h<4294967295)(hr:r<16):bits .or .u64 ((h:Int)+1) ((r:Int)*4294967296)=(((⟨h,r,0⟩:Ent).a:Nat):Int):=by
 have e1:((h:Int)+1)=((h+1:Nat):Int):=by omega
 have e2:((r:Int)*4294967296)=((r*4294967296:Nat):Int):=by omega
 rw[e1,e2,u64_or_nat _ _ (by omega) (by omega)];unfold Ent.a;have:(h+1)|||(r*4294967296)=h+1+4294967296*r:=by
  rw[J2B,nat_join 32 (r*4294967296) (h+1) (by omega) (by omega)];omega
 rw[this]
theorem Z7N(h r:Nat)(hh:h<4294967295)(hr:r<16):bits .and .u64 ((((⟨h,r,0⟩:Ent).a:Nat):Int)) 4294967295=((h+1:Nat):Int):=by
 unfold Ent.a;have:=u64_and_nat (h+1+4294967296*r) 4294967295 (by omega) (by omega);rw[show((4294967295:Nat):Int)=4294967295 from rfl] at this;rw[show(⟨h,r,0⟩:Ent).h=h from rfl,show(⟨h,r,0⟩:Ent).r=r from rfl,this,J0O _ 32];omega
theorem Z5C(h r:Nat)(hh:h<4294967295):(((⟨h,r,0⟩:Ent).a:Nat):Int)/4294967296=(r:Int):=by
 unfold Ent.a;show((h+1+4294967296*r:Nat):Int)/4294967296=(r:Int);omega
theorem Z9k(e:Ent):e.a=(⟨e.h,e.r,0⟩:Ent).a:=rfl
def capV:Option Ent->Value
 | none=>.tuple #[.agg #[.int .u32 0,.int .i64 0],.bool false]
 | some e=>.tuple #[.agg #[.int .u32 (e.h:Int),.int .i64 (e.r:Int)],.bool true]
def Ent.Low(e:Ent):Prop:=e.h<4294967295/\e.r<16
theorem Q2T{w:World}{S:CO}{t:TB}{p:Pl}{g:Nat}(T:TT S t p g w)(x f z:Int)(Ik:∀e,t.at' z=some e->e.Low) :
  Calls prog 93 #[.agg #[.pointer (some ⟨g,0,none⟩),.int .u32 x,.int .i64 f],.int .i64 z] w (Told w (capV (t.at' z))):=by
 have Ae:Below w.heap.size w ((w.alloc (.cells #[.pointer (some ⟨g,0,none⟩),.int .u32 x,.int .i64 f] 191)).alloc (.cells #[.int .u32 0,.int .i64 0] 72)):=((Below.refl _ _).alloc (Z9s _) _).alloc (by simp) _;have kg:=Q6E (T.grown Ae) z;have hA:=(Cells.new w 191 [.pointer (some ⟨g,0,none⟩),.int .u32 x,.int .i64 f]).alloc (.cells #[.int .u32 0,.int .i64 0] 72);have a0:=hA.cell 0 _ rfl;have HE:Hid (∀o,Below w.heap.size w ((w.alloc (.cells #[.pointer (some ⟨g,0,none⟩),.int .u32 x,.int .i64 f] 191)).alloc o)):=fun o=>((Below.refl _ _).alloc (Z9s _) _).alloc (by simp) o
 cases ho:t.at' z with
 | none =>
  rw[ho] at kg;unfold getV Q0q Q0L at kg;simp only[capV];clear T Ik ho hA Ae;go_enter func93,ntmps93;go_wp2_with fail;refine kg.mono ?_;rintro r w1⟨rfl,rfl⟩;go_wp2_with fail;refine bodyPost_ret (v:=.tuple #[.agg #[.int .u32 0,.int .i64 0],.bool false]) (by simp[results,results93,go_sem]) rfl ⟨rfl,HE.out _⟩
 | some e =>
  obtain⟨l1,l2⟩:=Ik e ho;rw[ho] at kg;simp only[getV,Q0q] at kg;simp only[capV];have h1:=Z7N e.h e.r l1 l2;have h2:=Z5C e.h e.r l1;have Ab:((e.a:Nat):Int)≠0:=by unfold Ent.a;omega
  have GC:(((e.a:Nat):Int)==0)=false:=by simpa using Ab
  rw[<- Z9k] at h1 h2;have Gk:(bits .and .u64 ((e.a:Nat):Int) 4294967295-1)%4294967296=(e.h:Int):=by rw[h1];omega
  have FB:((e.a:Nat):Int)/4294967296=(e.r:Int):=h2;have Pv:=Q0a Gk;have Q5:=Q0a FB;clear Gk FB h1 h2;have Aa:e.a<18446744073709551616:=by unfold Ent.a;omega
  generalize Q0L (some e)=cb at *
  generalize e.a=ca at *
  generalize e.h=eh at *
  generalize e.r=er at *
  have QC:(0:Int)<=(ca:Int):=by omega
  clear T Ik ho hA Ae Ab;go_enter func93,ntmps93;go_wp2_with fail;refine kg.mono ?_;rintro r w1⟨rfl,rfl⟩;go_wp2_with fail;refine bodyPost_ret (v:=.tuple #[.agg #[.int .u32 eh,.int .i64 er],.bool true]) (by simp[results,results93,go_sem,Pv.out,Q5.out]) rfl ⟨rfl,HE.out _⟩
def TblZ(Z:SP)(p:Pl)(g:Nat)(w:World):Prop:=AsideV Z.hl [ptr Z.S.P.p,.int .i64 (p.fac:Int),.int .i64 (p.at_:Int)] (some ⟨g,0,none⟩) w
theorem SP.keyS{Z:SP}{b:Nat}(h:b∈keys Z.S.hl):b∈keys Z.hl:=(Z.permS.map Prod.fst).mem_iff.2 (by rw[J2J];exact J0e _ h)
theorem TblZ.c{Z:SP}{p:Pl}{g:Nat}{w:World}(h:TblZ Z p g w):TblC Z.S p g w:=fun j v hj=>by
 obtain⟨g',e,hk,hl,hc⟩:=h j v hj;exact⟨g',e,fun x=>hk (SP.keyS x),hl,hc⟩
theorem TblZ.step{Z Z':SP}{p:Pl}{g:Nat}{w w':World}(h:TblZ Z p g w)(st:Step Z.hl Z'.hl w w')(hp:Z'.S.P.p=Z.S.P.p):TblZ Z' p g w':=by
 unfold TblZ;rw[hp];exact AsideV.step h st
theorem TblZ.grown{Z:SP}{p:Pl}{g:Nat}{w w':World}(h:TblZ Z p g w)(hs:Sep w Z.hl)(hb:Below w.heap.size w w'):TblZ Z p g w':=h.step (hs.grown hb) rfl
theorem Z3c{w:World}{Z:SP}{fr:List Nat}{N K:Nat}(h:Sep w Z.hl)(ok:Z.S.Ok fr N K){x:Nat}(hx:x<4294967296){p:Pl}(hp:pget Z.S.l 1 x=some p)(hk:p.kind=2) :
  Calls prog 90 #[.pointer (some ⟨Z.s,0,none⟩),.int .u32 x] w fun r w'=>∃g:Nat,r=.returned (.tuple #[.agg #[.pointer (some ⟨g,0,none⟩),.int .u32 x,.int .i64 (p.fac:Int)],.int .i64 0])/\Below w.heap.size w w'/\TblZ Z p g w'/\w.heap.size<=g:=by
 have b1:Below w.heap.size w (w.alloc (.cells #[.pointer none,.int .u32 0,.int .i64 0] 191)):=(Below.refl _ _).alloc (Z9s _) _;have s1:=(h.grown b1).sep;have c0:=SP.c0 s1;have hO:Calls prog 49 #[.pointer (some ⟨Z.S.c,0,none⟩),.int .u32 x,.int .i64 2] (w.alloc (.cells #[.pointer none,.int .u32 0,.int .i64 0] 191)) (Told (w.alloc (.cells #[.pointer none,.int .u32 0,.int .i64 0] 191)) (.tuple #[.agg #[.int .i64 (p.kind:Int),.int .i64 (p.at_:Int),.int .i64 (p.fac:Int)],.int .i64 0])):=Q2S (SP.sS s1) ok.inv.lok hx 2 hp (.inr (by omega));have hu:p.at_∈Z.S.P.usedOf 2:=Q1a ok (pget_some.1 hp).1 (pget_some.1 hp).2.2 hk
 have HC:Hid (∀w1,Below (w.alloc (.cells #[.pointer none,.int .u32 0,.int .i64 0] 191)).heap.size (w.alloc (.cells #[.pointer none,.int .u32 0,.int .i64 0] 191)) w1 ->
   ((w1.alloc (.cells #[.int .i64 (p.kind:Int),.int .i64 (p.at_:Int),.int .i64 (p.fac:Int)] 54)).cell? ⟨Z.s,0,none⟩=some (.pointer (some ⟨Z.S.c,0,none⟩))/\(w1.alloc (.cells #[.int .i64 (p.kind:Int),.int .i64 (p.at_:Int),.int .i64 (p.fac:Int)] 54)).cell? ⟨w1.heap.size,1,none⟩=some (.int .i64 (p.at_:Int))/\(w1.alloc (.cells #[.int .i64 (p.kind:Int),.int .i64 (p.at_:Int),.int .i64 (p.fac:Int)] 54)).cell? ⟨w1.heap.size,2,none⟩=some (.int .i64 (p.fac:Int))) /\
   ∀w2,Below (w1.alloc (.cells #[.int .i64 (p.kind:Int),.int .i64 (p.at_:Int),.int .i64 (p.fac:Int)] 54)).heap.size (w1.alloc (.cells #[.int .i64 (p.kind:Int),.int .i64 (p.at_:Int),.int .i64 (p.fac:Int)] 54)) w2 ->
    Calls prog 27 #[.pointer (some ⟨Z.S.c,0,none⟩)] w2 (fun r w'=>r=.returned (.pointer (some ⟨Z.S.P.p,0,none⟩))/\w2=w') /\
    Calls prog 169 #[.pointer (some ⟨Z.S.P.p,0,none⟩),.int .i64 (p.fac:Int),.int .i64 (p.at_:Int)] w2 (fun r w'=>(w'.cell? ⟨Z.s,0,none⟩=some (.pointer (some ⟨Z.S.c,0,none⟩))/\w'.cell? ⟨w1.heap.size,1,none⟩=some (.int .i64 (p.at_:Int))/\w'.cell? ⟨w1.heap.size,2,none⟩=some (.int .i64 (p.fac:Int)))/\∃g:Nat,r=.returned (.pointer (some ⟨g,0,none⟩))/\Cells w' w.heap.size 191 [.pointer none,.int .u32 0,.int .i64 0]/\(∀a b c,(((w'.setCell ⟨w.heap.size,0,none⟩ a).setCell ⟨w.heap.size,1,none⟩ b).setCell ⟨w.heap.size,2,none⟩ c).cell? ⟨Z.s,0,none⟩=some (.pointer (some ⟨Z.S.c,0,none⟩))/\(((w'.setCell ⟨w.heap.size,0,none⟩ a).setCell ⟨w.heap.size,1,none⟩ b).setCell ⟨w.heap.size,2,none⟩ c).cell? ⟨w1.heap.size,1,none⟩=some (.int .i64 (p.at_:Int))/\(((w'.setCell ⟨w.heap.size,0,none⟩ a).setCell ⟨w.heap.size,1,none⟩ b).setCell ⟨w.heap.size,2,none⟩ c).cell? ⟨w1.heap.size,2,none⟩=some (.int .i64 (p.fac:Int)))/\∀a b c,Below w.heap.size w (((w'.setCell ⟨w.heap.size,0,none⟩ a).setCell ⟨w.heap.size,1,none⟩ b).setCell ⟨w.heap.size,2,none⟩ c)/\TblZ Z p g (((w'.setCell ⟨w.heap.size,0,none⟩ a).setCell ⟨w.heap.size,1,none⟩ b).setCell ⟨w.heap.size,2,none⟩ c)/\w.heap.size<=g)):=fun w1 Au=>by
  have hR:=(Cells.new w 191 [.pointer none,.int .u32 0,.int .i64 0]).same (Au.block w.heap.size (by simp));have Kt:Below w.heap.size w w1:=Q0b Au;have Cx:=Kt.alloc Kt.size (.cells #[.int .i64 (p.kind:Int),.int .i64 (p.at_:Int),.int .i64 (p.fac:Int)] 54);have Me:=Cells.new w1 54 [.int .i64 (p.kind:Int),.int .i64 (p.at_:Int),.int .i64 (p.fac:Int)];have QY:w.heap.size<w1.heap.size:=by have:=Au.size;simp at this;omega
  have Mc:=hR.alloc (.cells #[.int .i64 (p.kind:Int),.int .i64 (p.at_:Int),.int .i64 (p.fac:Int)] 54);refine⟨⟨SP.c0 (h.grown Cx).sep,Me.cell 1 _ rfl,Me.cell 2 _ rfl⟩,fun w2 Ae=>?_⟩;have Fq:Below w.heap.size w w2:=Cx.trans (Ae.mono (by simp;omega));have s2:=(h.grown Fq).sep;refine⟨Q0S (SP.sS s2),(Z7K (SP.sS s2) ok hu).mono ?_⟩;rintro r w'⟨g,rfl,Ax,ht,hg⟩;have KF:=(Me.same (Ae.block w1.heap.size (by simp))).same (Ax.block w1.heap.size (by have:=Ae.size;simp at this;omega));have AG:Below w.heap.size w w':=Fq.trans (Ax.mono Fq.size);have Qm:=(Mc.same (Ae.block w.heap.size (by simp;omega))).same (Ax.block w.heap.size (by have:=Ae.size;simp at this;omega))
  refine⟨⟨SP.c0 (h.grown AG).sep,KF.cell 1 _ rfl,KF.cell 2 _ rfl⟩,g,rfl,Qm,fun a b c=>?_,fun a b c=>?_⟩
  ·have BK:∀(W:World) (i k j:Nat) (u:Value),k≠w.heap.size->(W.setCell ⟨w.heap.size,i,none⟩ u).cell? ⟨k,j,none⟩=W.cell? ⟨k,j,none⟩:=fun W i k j u hk=>World.cell?_of_block (Below.heap_setCell _ _ _ _ (by simpa using hk))
   have MU:Z.s≠w.heap.size:=fun hx=>by
    have:=h.lt (b:=Z.s) (by simp[SP.hl,SP.head,keys]);omega
   have Ea:w1.heap.size≠w.heap.size:=by omega
   rw[BK _ _ _ _ _ MU,BK _ _ _ _ _ MU,BK _ _ _ _ _ MU,BK _ _ _ _ _ Ea,BK _ _ _ _ _ Ea,BK _ _ _ _ _ Ea,BK _ _ _ _ _ Ea,BK _ _ _ _ _ Ea,BK _ _ _ _ _ Ea];exact⟨SP.c0 (h.grown AG).sep,KF.cell 1 _ rfl,KF.cell 2 _ rfl⟩
  refine⟨((AG.setCell (Z9s _) _).setCell (Z9s _) _).setCell (Z9s _) _,fun j v hj=>?_,by have:=Ae.size;simp at this;omega⟩;obtain⟨g',e,_,hl,hc⟩:=ht j v hj;obtain rfl:g=g':=by cases e;rfl
  clear e;have Fu:w.heap.size<g:=by have:=Ae.size;simp at this;omega
  refine⟨g,rfl,fun hk=>?_,by simpa using hl,?_⟩
  ·have:=s2.lt hk;omega
  ·have Ab:∀(W:World) (i:Nat) (u:Value),(W.setCell ⟨w.heap.size,i,none⟩ u).cell? ⟨g,j,none⟩=W.cell? ⟨g,j,none⟩:=fun W i u=>World.cell?_of_block (Below.heap_setCell _ _ _ _ (by simp;omega))
   rw[Ab,Ab,Ab];exact hc
 clear h ok hp hu b1 s1;have An:((p.kind:Nat):Int)=2:=by omega
 rw[An] at hO;simp only[An] at HC;clear An hk;generalize p.at_=pa at *
 go_enter func90,ntmps90;go_wp2_with fail;refine hO.mono ?_;rintro r w1⟨rfl,Au⟩;obtain⟨⟨c1,c2,c3⟩,Cd⟩:=HC.out w1 Au;have M9:=Q0a Cd;have d1:(w1.alloc (.cells #[.int .i64 2,.int .i64 pa,.int .i64 (p.fac:Int)] 54)).drew.cell? ⟨Z.s,0,none⟩=some (.pointer (some ⟨Z.S.c,0,none⟩)):=c1;have d2:(w1.alloc (.cells #[.int .i64 2,.int .i64 pa,.int .i64 (p.fac:Int)] 54)).drew.cell? ⟨w1.heap.size,1,none⟩=some (.int .i64 pa):=c2;have d3:(w1.alloc (.cells #[.int .i64 2,.int .i64 pa,.int .i64 (p.fac:Int)] 54)).drew.cell? ⟨w1.heap.size,2,none⟩=some (.int .i64 (p.fac:Int)):=c3;clear Au Cd HC hO;go_wp2_with fail
 have CM:=(M9.out _ ((Below.refl _ _).drew)).1;have Er:=(M9.out _ ((Below.refl _ _).drew)).2;have G5:=Q0a Er;clear Er M9
 go_region_held3 (fun w'=>w'.cell? ⟨Z.s,0,none⟩=some (.pointer (some ⟨Z.S.c,0,none⟩))/\w'.cell? ⟨w1.heap.size,1,none⟩=some (.int .i64 pa)/\w'.cell? ⟨w1.heap.size,2,none⟩=some (.int .i64 (p.fac:Int))) (first|exact⟨c1,c2,c3⟩|exact⟨d1,d2,d3⟩|exact Ak|exact DK _ _ _)
  (first|(go_at_call 27;refine CM.mono ?_;rintro r w'⟨rfl,rfl⟩)|(go_at_call 169;refine G5.out.mono ?_;rintro r w3⟨Ak,g,rfl,Ai,DK,hz⟩;have HZ:=Q0a hz;have e0:=Ai.cell 0 _ rfl;have e1:=Ai.cell 1 _ rfl;have e2:=Ai.cell 2 _ rfl;have f0:=Ai.free 0;have f1:=Ai.free 1;have f2:=Ai.free 2;have Aa:=Ai.lt;clear hz Ai G5))
 go_wp2_with fail;refine bodyPost_ret (v:=.tuple #[.agg #[.pointer (some ⟨g,0,none⟩),.int .u32 x,.int .i64 (p.fac:Int)],.int .i64 0]) (by simp[results,results90,go_sem,e0,e1,e2]) rfl ⟨g,rfl,HZ.out _ _ _⟩
theorem Q1Y{w:World}{Z:SP}{fr:List Nat}{N K:Nat}(h:Sep w Z.hl)(ok:Z.S.Ok fr N K){x:Nat}(hx:x<4294967296){p:Pl}(hp:pget Z.S.l 1 x=some p)(hk:p.kind=2) :
  Calls prog 90 #[.pointer (some ⟨Z.s,0,none⟩),.int .u32 x] w fun r w'=>∃g:Nat,r=.returned (.tuple #[.agg #[.pointer (some ⟨g,0,none⟩),.int .u32 x,.int .i64 (p.fac:Int)],.int .i64 0])/\Below w.heap.size w w'/\TblZ Z p g w':=
 (Z3c h ok hx hp hk).mono fun r w' ⟨g,h1,h2,h3,_⟩=>⟨g,h1,h2,h3⟩
theorem Q5U{w:World}{Z:SP}(h:Sep w Z.hl){x:Nat}{e:Int}(he:e≠0)(hO:Calls prog 49 #[.pointer (some ⟨Z.S.c,0,none⟩),.int .u32 x,.int .i64 2] (w.alloc (.cells #[.pointer none,.int .u32 0,.int .i64 0] 191)) (Told (w.alloc (.cells #[.pointer none,.int .u32 0,.int .i64 0] 191)) (.tuple #[.agg #[.int .i64 0,.int .i64 0,.int .i64 0],.int .i64 e]))) :
  Calls prog 90 #[.pointer (some ⟨Z.s,0,none⟩),.int .u32 x] w (Told w (.tuple #[.agg #[.pointer none,.int .u32 0,.int .i64 0],.int .i64 e])):=by
 have b1:Below w.heap.size w (w.alloc (.cells #[.pointer none,.int .u32 0,.int .i64 0] 191)):=(Below.refl _ _).alloc (Z9s _) _;have c0:=SP.c0 (h.grown b1).sep;have GC:(e==0)=false:=by simpa using he
 have HC:Hid (∀w1,Below (w.alloc (.cells #[.pointer none,.int .u32 0,.int .i64 0] 191)).heap.size (w.alloc (.cells #[.pointer none,.int .u32 0,.int .i64 0] 191)) w1->(∀o,Cells (w1.alloc o) w.heap.size 191 [.pointer none,.int .u32 0,.int .i64 0])/\∀o a b c,Below w.heap.size w ((((w1.alloc o).setCell ⟨w.heap.size,0,none⟩ a).setCell ⟨w.heap.size,1,none⟩ b).setCell ⟨w.heap.size,2,none⟩ c)):=fun w1 Au=>by
  have hR:=(Cells.new w 191 [.pointer none,.int .u32 0,.int .i64 0]).same (Au.block w.heap.size (by simp));exact⟨hR.alloc,fun o a b c=>((((Q0b Au).alloc (Q0b Au).size o).setCell (Z9s _) _).setCell (Z9s _) _).setCell (Z9s _) _⟩
 clear h b1;go_enter func90,ntmps90;go_wp2_with fail;refine hO.mono ?_;rintro r w1⟨rfl,Au⟩;obtain⟨Bl,hz⟩:=HC.out w1 Au;have Ai:=Bl (.cells #[.int .i64 0,.int .i64 0,.int .i64 0] 54);have HZ:=Q0a hz;have e0:=Ai.cell 0 _ rfl;have e1:=Ai.cell 1 _ rfl;have e2:=Ai.cell 2 _ rfl;have f0:=Ai.free 0;have f1:=Ai.free 1;have f2:=Ai.free 2;have Aa:=Ai.lt;clear Au hz Ai Bl HC hO;go_wp2_with fail;refine bodyPost_ret (v:=.tuple #[.agg #[.pointer none,.int .u32 0,.int .i64 0],.int .i64 e]) (by simp[results,results90,go_sem,e0,e1,e2]) rfl ⟨rfl,HZ.out _ _ _ _⟩
theorem Q1r{w:World}{Z:SP}{fr:List Nat}{N K:Nat}(h:Sep w Z.hl)(ok:Z.S.Ok fr N K){x:Nat}(hx:x<4294967296)(e:Int)(hw:(pget Z.S.l 1 x=none/\e=8)∨∃p,pget Z.S.l 1 x=some p/\p.kind≠2/\e=10) :
  Calls prog 90 #[.pointer (some ⟨Z.s,0,none⟩),.int .u32 x] w (Told w (.tuple #[.agg #[.pointer none,.int .u32 0,.int .i64 0],.int .i64 e])):=by
 have s1:=(h.grown ((Below.refl w.heap.size w).alloc (Z9s _) (.cells #[.pointer none,.int .u32 0,.int .i64 0] 191))).sep;rcases hw with ⟨hp,rfl⟩|⟨p,hp,hk,rfl⟩
 ·exact Q5U h (by decide) (Q3E (SP.sS s1) ok.inv.lok hx 2 hp)
 ·exact Q5U h (by decide) (Q3F (SP.sS s1) ok.inv.lok hx 2 hp (by decide) (by omega))
structure FO.New(q:FO):Prop where
 N:q.N=[]
 next:q.next=0
 ok:q.Ok
theorem Z5D{w:World}{H:HL}(h:Sep w H):Calls prog 155 #[] w fun r w'=>∃q:FO,r=.returned (.pointer (some ⟨q.f,0,none⟩))/\q.New/\Step H (q.hl++H) w w':=by
 have s1:=h.newMap;have s2:=s1.sep.newMap;have s3:=s2.sep.new 283 [.map (some w.heap.size),.map (some (w.alloc (.map #[] 0)).heap.size),.int .i64 0];have HQ:Hid (∃q:FO,q.f=((w.alloc (.map #[] 0)).alloc (.map #[] 0)).heap.size/\q.New/\Step H (q.hl++H) w (((w.alloc (.map #[] 0)).alloc (.map #[] 0)).alloc (.cells #[.map (some w.heap.size),.map (some (w.alloc (.map #[] 0)).heap.size),.int .i64 0] 283))):=by
  refine⟨⟨((w.alloc (.map #[] 0)).alloc (.map #[] 0)).heap.size,w.heap.size,(w.alloc (.map #[] 0)).heap.size,[],0,fun _=>none⟩,rfl,⟨rfl,rfl,⟨⟨List.Pairwise.nil,List.Pairwise.nil,J3g _,fun e h=>(by cases h),fun e h=>(by cases h),fun e h=>(by cases h),fun e h=>(by cases h),fun e h=>(by cases h),fun e h=>(by cases h)⟩,(by show(0:Int)<1099511627776;decide),fun e h=>(by cases h),J1l _⟩⟩,?_⟩;refine((s1.trans s2).trans s3).perm (J2A _) ?_;refine Q0M fun a=>?_
  simp only[FO.hl,FO.head,hc_append,hc_cons,kvs,okv,isMI,isMS,J1P,J3f];simp only[Z8C];omega
 clear h s1 s2 s3;have AM:(w.alloc (.map #[] 0)).heap.size=w.heap.size+1:=by simp
 have Bh:((w.alloc (.map #[] 0)).alloc (.map #[] 0)).heap.size=w.heap.size+1+1:=by simp
 rw[AM,Bh] at HQ;have Kz:=@run_makeMap prog;go_enter func155,ntmps155;go_wp2_with fail;obtain⟨q,e,h1,h2⟩:=HQ.out;have e2:Ending.returned (.pointer (some ⟨w.heap.size+1+1,0,none⟩))=Ending.returned (.pointer (some ⟨q.f,0,none⟩)):=by rw[e]
 (try go_ret);exact⟨q,e2,h1,h2⟩
structure SP.New(Z:SP)(S:CO)(tb:Nat->TB):Prop where
 S:Z.S=S
 tb:Z.tb=tb
 F:Z.F.New
theorem Z5E{w:World}{S:CO}(h:Sep w S.hl)(tb:Nat->TB):Calls prog 80 #[.pointer (some ⟨S.c,0,none⟩)] w fun r w'=>∃Z:SP,r=.returned (.pointer (some ⟨Z.s,0,none⟩))/\Z.New S tb/\Step S.hl Z.hl w w':=by
 have kf:=Z5D h;have HQ:Hid (∀(q:FO) (w1:World),q.New->Step S.hl (q.hl++S.hl) w w1->∃Z:SP,Z.s=w1.heap.size/\Z.New S tb/\Step S.hl Z.hl w (w1.alloc (.cells #[.pointer (some ⟨S.c,0,none⟩),.pointer (some ⟨q.f,0,none⟩)] 183))):=fun q w1 hq st=>by
  refine⟨⟨w1.heap.size,S,tb,q⟩,rfl,⟨rfl,rfl,hq⟩,?_⟩;refine(st.trans (st.sep.new 183 [ptr S.c,ptr q.f])).perm (J2A _) ?_;refine Q0M fun a=>?_
  simp only[SP.hl,SP.head,hc_append,hc_cons];omega
 clear h;go_enter func80,ntmps80;go_wp2_with fail;refine kf.mono ?_;rintro r w1⟨q,rfl,hq,st⟩;obtain⟨Z,e,h1,h2⟩:=HQ.out q w1 hq st;have HZ:Hid (Z.New S tb/\Step S.hl Z.hl w (w1.alloc (.cells #[.pointer (some ⟨S.c,0,none⟩),.pointer (some ⟨q.f,0,none⟩)] 183))):=⟨h1,h2⟩
 clear hq st h1 h2 HQ kf;go_wp2_with fail;have e2:Ending.returned (.pointer (some ⟨w1.heap.size,0,none⟩))=Ending.returned (.pointer (some ⟨Z.s,0,none⟩)):=by rw[e]
 (try go_ret);exact⟨Z,e2,HZ.out.1,HZ.out.2⟩
theorem SP.New.ok{Z:SP}{S:CO}{tb:Nat->TB}(h:Z.New S tb){fr:List Nat}{N K:Nat}(ok:S.Ok fr N K)(t:TPI S tb)(hn:∀i,i<256->(tb i).Nil):Z.Ok fr N K 0:=by
 have AU:∀x s,Q0k S.l tb x s=none:=fun x s=>by
  unfold Q0k;split
  ·split
   ·rename_i hc;exact(hn _ (J2n _ (by omega))).2 s hc.2
   ·rfl
  ·rfl
 refine⟨by rw[h.S];exact ok,by rw[h.S,h.tb];exact t,?_,h.F.ok,by rw[h.F.next];exact J3g _⟩;rw[h.S,h.tb,h.F.N];exact⟨fun x s e he=>(by rw[AU] at he;cases he),fun x s e he=>(by rw[AU] at he;cases he),fun n hn=>(by cases hn),fun n hn=>by cases hn⟩
theorem TPI.emp{S:CO}{fr:List Nat}{N K:Nat}(ok:S.Ok fr N K)(h2:∀(i:Nat) (p:Pl),S.l[i]?=some p->¬(p.st=1/\p.kind=2))(h7:S.P.usedOf 7=[])(h6:S.P.usedOf 6=[])(hx:∀id,S.xc id=0):TPI S fun _=>TB.emp:=by
 have l0:Q2y (fun _=>TB.emp)=[]:=by
  unfold Q2y;simp only[TB.emp_nil.lists.1];generalize List.range 256=L
  induction L with
  | nil=>rfl
  | cons a r ih=>rw[Z9O,ih];rfl
 have n0:Q3n (fun _=>TB.emp)=[]:=by
  unfold Q3n;simp only[TB.emp_nil.lists.2.1];generalize List.range 256=L
  induction L with
  | nil=>rfl
  | cons a r ih=>rw[Z9O,ih];rfl
 refine⟨fun i p hi h1 hk=>absurd ⟨h1,hk⟩ (h2 i p hi),fun i _=>TB.emp_nil.full,fun i p _ _=>TB.emp_nil,by rw[l0,h7],by rw[n0,h6],fun id=>?_⟩;rw[hx];unfold xcOf;have:∀i,xcP (fun _=>TB.emp) id i S.l[i]?=0:=fun i=>by
  unfold xcP;split
  ·split
   ·exact TB.emp_nil.lists.2.2
   ·rfl
  ·rfl
 simp only[this];generalize List.range 256=L
 induction L with
 | nil=>rfl
 | cons a r ih=>rw[Z9v,J2R];omega
def Z7O(Z:SP)(fr:List Nat)(N K:Nat)(own:Int)(i s:Nat)(o:Option Ent)(w w':World):Prop:=∃S' t',TurnP Z.S fr N K Z.tb own i s o S' t'/\Step Z.hl (Z.setS S' (updT Z.tb i t')).hl w w'
def WhyL(Z:SP)(fr:List Nat)(own:Int)(i s:Nat)(er:Int):Prop:=
 (er=5/\∃e,find Z.S.P.q.E own=some e/\Q0r e<48)∨(er=4/\NoRoom Z.S.P 6) ∨
 ∃a P1,GetOk Z.S.P fr own 6 a P1/\(Z.tb i).lf (s/16)=0/\((er=5/\∃e,find P1.q.E own=some e/\Q0r e<256)∨(er=4/\NoRoom P1 7))
def LayR(Z:SP)(fr:List Nat)(N K:Nat)(own:Int)(i s h r:Nat)(w:World)(er:Int)(w':World):Prop:=
 (er=0/\∃nd,Z7O Z fr N K own i s (some ⟨h,r,nd⟩) w w')∨((er=4∨er=5)/\WhyL Z fr own i s er/\∃P',Tried Z.S.P fr Z.S.l P'/\Step Z.hl (Z.setS (Z.S.setP P') Z.tb).hl w w')
theorem Z5F{S:CO}{fr:List Nat}{N K:Nat}{tb:Nat->TB}{own:Int}{xl xn xn':List Nat}(ok:S.Ok fr N K)(t:TPX S tb own xl xn){i s:Nat}{p:Pl}(hi:S.l[i]?=some p)(h1:p.st=1)(h2:p.kind=2)(Am:(p.fac:Int)=own)(hs:s<256){e:Ent}(hn:(xn'++((tb i).setE s (some e)).nds).Perm (xn++(tb i).nds))
  (hA:Q0q (some e)<18446744073709551616) (hB:Q0L (some e)<18446744073709551616) {w:World} {g:Nat} (A7:Sep w S.hl) (hg:TblC S p g w) :
  Calls prog 103 #[.pointer (some ⟨g,0,none⟩),.int .i64 s,.int .u64 (Q0q (some e):Nat),.int .u64 (Q0L (some e):Nat)] w (SetR S fr N K tb own xl xn' i s (some e) w):=by
 by_cases hl:(tb i).lf (s/16)=0
 ·obtain⟨ac,F7⟩:=Q7y ok hi h1;rw[Am] at F7;exact Z5v ok t hi h1 h2 Am hs hl F7 hn hA hB A7 hg
 ·exact Z5u ok t hi h1 h2 Am hs hl hn hA hB A7 hg
theorem Put1.turn{S:CO}{fr:List Nat}{N K:Nat}{tb:Nat->TB}{own:Int}{i s:Nat}{o:Option Ent}{w w':World}(h:Put1 S fr N K tb own [] [] i s o w w')(hf:∀j,j<256->(tb j).Full):Z9j S fr N K tb own i s o w w':=by
 obtain⟨S',t',ok,t,en,full,lf,al,st⟩:=h;refine⟨S',t',⟨ok,t.done fun j hj=>?_,en,lf,al⟩,st⟩;by_cases e:j=i
 ·subst e;rw[updT_same];exact full (hf j hj)
 ·rw[Q0K e];exact hf j hj
theorem TurnP.after{S S1:CO}{fr:List Nat}{N K:Nat}{tb:Nat->TB}{own:Int}{i s:Nat}{o:Option Ent}{S':CO}{t':TB}(al:Alt S S1 own)(h:TurnP S1 fr N K tb own i s o S' t'):TurnP S fr N K tb own i s o S' t':=⟨h.ok,h.tpi,h.en,h.lf,al.trans h.alt⟩
structure BoxL(Z:SP)(g x f h r B:Nat)(w:World):Prop where
 x:AsideV Z.hl [.pointer (some ⟨g,0,none⟩),.int .u32 x,.int .i64 f] (some ⟨B,0,none⟩) w
 c:AsideV Z.hl [.int .u32 h,.int .i64 r] (some ⟨B+1,0,none⟩) w
theorem BoxL.step{Z Z':SP}{g x f h r B:Nat}{w w':World}(b:BoxL Z g x f h r B w)(st:Step Z.hl Z'.hl w w'):BoxL Z' g x f h r B w':=⟨b.x.step st,b.c.step st⟩
theorem AsideV.at{H:HL}{cs:List Value}{b:Nat}{w:World}(h:AsideV H cs (some ⟨b,0,none⟩) w)(j:Nat)(v:Value)(hj:cs[j]?=some v):w.cell? ⟨b,j,none⟩=some v:=by
 obtain⟨g,e,_,_,hc⟩:=h j v hj;cases e;exact hc
def HeldL(Z:SP)(g f h r B:Nat)(w':World):Prop:=w'.cell? ⟨Z.s,0,none⟩=some (.pointer (some ⟨Z.S.c,0,none⟩))/\w'.cell? ⟨B,0,none⟩=some (.pointer (some ⟨g,0,none⟩))/\w'.cell? ⟨B,2,none⟩=some (.int .i64 f)/\w'.cell? ⟨B+1,0,none⟩=some (.int .u32 h)/\w'.cell? ⟨B+1,1,none⟩=some (.int .i64 r)
theorem BoxL.held{Z:SP}{g x f h r B:Nat}{w:World}(b:BoxL Z g x f h r B w)(hs:Sep w Z.hl):HeldL Z g f h r B w:=⟨SP.c0 hs,b.x.at 0 _ rfl,b.x.at 2 _ rfl,b.c.at 0 _ rfl,b.c.at 1 _ rfl⟩
theorem HeldL.grown{Z:SP}{g f h r B:Nat}{w w':World}(b:HeldL Z g f h r B w)(hb:Below w.heap.size w w'):HeldL Z g f h r B w':=by
 obtain⟨a1,a2,a3,a4,a5⟩:=b;have k:∀{p:Addr} {v:Value},w.cell? p=some v->w'.cell? p=some v:=fun {p v} e=>(hb.cell (World.block_lt_of_cell? w p e)).trans e
 exact⟨k a1,k a2,k a3,k a4,k a5⟩
theorem Z3d{w w1:World}{Z:SP}{fr:List Nat}{N K:Nat}(hs:Sep w Z.hl)(hb:Below w.heap.size w w1)(ok:Z.S.Ok fr N K)(t:TPI Z.S Z.tb){i s x g B h r:Nat}{p:Pl}(hi:Z.S.l[i]?=some p)(h1:p.st=1)(h2:p.kind=2)(Bi:s<256)(h0:(Z.tb i).en s=none)(hh:h<4294967295)(hr:r<16)
  (hg:TblZ Z p g w1) (DT:BoxL Z g x p.fac h r B w1) :
  Calls prog 15 #[.pointer (some ⟨Z.S.P.p,0,none⟩),.int .i64 (p.fac:Int),.int .i64 6] w1 fun rv w2=>HeldL Z g p.fac h r B w2/\∃a er:Int,rv=.returned (.tuple #[.int .i64 a,.int .i64 er]) /\
   (((er=4∨er=5)/\LayR Z fr N K p.fac i s h r w er w2) ∨
    ∃A:Nat,a=(A:Int)/\er=0/\A<=1073741824/\∀w3,Below w2.heap.size w2 w3 ->
    Calls prog 103 #[.pointer (some ⟨g,0,none⟩),.int .i64 s,.int .u64 ((⟨h,r,0⟩:Ent).a:Nat),.int .u64 A] w3 fun rv w4=>HeldL Z g p.fac h r B w4/\∃er:Int,rv=.returned (.int .i64 er) /\
     ((er=0/\LayR Z fr N K p.fac i s h r w 0 w4)∨((er=4∨er=5)/\∀w5,Below w4.heap.size w4 w5 ->
      Calls prog 27 #[.pointer (some ⟨Z.S.c,0,none⟩)] w5 (fun r w'=>r=.returned (.pointer (some ⟨Z.S.P.p,0,none⟩))/\w5=w') /\
      Calls prog 21 #[.pointer (some ⟨Z.S.P.p,0,none⟩),.int .i64 (p.fac:Int),.int .i64 6,.int .i64 A] w5 fun rv w6=>rv=.returned (.int .i64 0)/\HeldL Z g p.fac h r B w6/\LayR Z fr N K p.fac i s h r w er w6))):=by
 have s1:=(hs.grown hb).sep;have KU:Q0O 6=48:=costs_67.1;have AX:∃q∈Z.S.l,q.st=1/\(q.fac:Int)=(p.fac:Int):=⟨p,J1x hi,h1,rfl⟩
 have Ao:=Q1B ok.inv.len hi;refine(Q4w (CO.sP (SP.sS s1)) ok.inv.mem.pool (p.fac:Int) 6).mono ?_;rintro rv w2 Ja;have zstep:∀{P':PL},P'.p=Z.S.P.p->Step Z.S.P.hl P'.hl w1 w2->Step Z.hl (Z.setS (Z.S.setP P') Z.tb).hl w w2:=fun {P'} e st=>(hs.grown hb).trans (SP.stepS s1 _ _ rfl (CO.stepP (SP.sS s1) P' e st))
 rcases Ja with ⟨Dd,_⟩|⟨_,Aq,_⟩|⟨_,⟨e,he,AI⟩,rfl,st⟩|⟨n,ac,hk,Qu,Qz,F7,M2,FE⟩
 ·rw[KU] at Dd;omega
 ·obtain⟨e,he⟩:=Q7y ok hi h1;rw[Aq] at he;cases he
 ·have st':=zstep rfl st;refine⟨(DT.step (SP.stepS s1 _ _ rfl (CO.stepP (SP.sS s1) Z.S.P rfl st))).held st'.sep,0,5,rfl,.inl ⟨.inr rfl,.inr ⟨.inr rfl,.inl ⟨rfl,e,he,?_⟩,Z.S.P,Tried.refl ok.inv.mem.pool _,st'⟩⟩⟩;rw[KU] at AI;exact AI
 ·obtain rfl:n=6:=by omega
  rcases FE with ⟨A,P1,rfl,g6,st⟩|⟨Aq,rfl,st⟩
  ·have EW:Step Z.hl (Z.setS (Z.S.setP P1) Z.tb).hl w w2:=zstep g6.p st;obtain⟨ok1,t1⟩:=TPX.got ok (t.x (p.fac:Int)) (.inl rfl) g6 AX;rw[if_neg (by decide),if_pos rfl] at t1;have al1:=Alt.got ok g6;have st1:Step Z.hl (Z.setS (Z.S.paid P1 (p.fac:Int) ((Q0d 6:Nat):Int)) Z.tb).hl w w2:=EW;have Ob:A∈P1.usedOf 6:=by
    obtain⟨X,Y,_,e2⟩:=g6.used;rw[e2];simp
   have QD:=Q0l ok1.inv.mem.pool Ob;have Lc:=Q0f ok1.inv.mem.pool;have PA:A+Q0d 6<=P1.a.mem.length:=QD.1;have L7:P1.a.mem.length<=1073741824:=Lc;have Cg:BoxL (Z.setS (Z.S.paid P1 (p.fac:Int) ((Q0d 6:Nat):Int)) Z.tb) g x p.fac h r B w2:=DT.step (Z':=Z.setS (Z.S.paid P1 (p.fac:Int) ((Q0d 6:Nat):Int)) Z.tb) (SP.stepS s1 _ _ rfl (CO.stepP (SP.sS s1) P1 g6.p st));have BN:TblZ (Z.setS (Z.S.paid P1 (p.fac:Int) ((Q0d 6:Nat):Int)) Z.tb) p g w2:=hg.step (Z':=Z.setS (Z.S.paid P1 (p.fac:Int) ((Q0d 6:Nat):Int)) Z.tb) (SP.stepS s1 _ _ rfl (CO.stepP (SP.sS s1) P1 g6.p st)) g6.p;refine⟨Cg.held st1.sep,(A:Int),0,rfl,.inr ⟨A,rfl,rfl,by omega,fun w3 Ax=>?_⟩⟩
   have st3:=st1.trans (st1.sep.grown Ax);have K4:=(BN.grown st1.sep Ax).c;have Gm:=Cg.step (st1.sep.grown Ax);have BS:([]++((Z.tb i).setE s (some ⟨h,r,A⟩)).nds).Perm ([A]++(Z.tb i).nds):=TB.nds_set Bi (e:=⟨h,r,A⟩) h0;have LM:Q0q (some (⟨h,r,A⟩:Ent))<18446744073709551616:=by
    show h+1+4294967296*r<_;omega
   refine(Z5F ok1 t1 (show(Z.S.paid P1 (p.fac:Int) ((Q0d 6:Nat):Int)).l[i]?=some p from hi) h1 h2 rfl Bi BS LM (by show A<_;omega) (SP.sS st3.sep) K4).mono ?_;rintro rv w4 (⟨rfl,AZ⟩|⟨EL,st,Fi⟩)
   ·obtain⟨S',t',T,stt⟩:=AZ.turn t.full;have T0:=T.after al1;have stz:Step Z.hl (Z.setS S' (updT Z.tb i t')).hl w w4:=st3.trans (SP.stepS st3.sep S' (updT Z.tb i t') (T.alt.c) stt);refine⟨?_,0,rfl,.inl ⟨rfl,.inl ⟨rfl,A,S',t',T0,stz⟩⟩⟩;have AG:=Gm.step (SP.stepS st3.sep S' (updT Z.tb i t') T.alt.c stt);have:=AG.held stz.sep;exact⟨by rw[<- T0.alt.c];exact this.1,this.2⟩
   ·have st4:Step Z.hl (Z.setS (Z.S.paid P1 (p.fac:Int) ((Q0d 6:Nat):Int)) Z.tb).hl w w4:=st3.trans (SP.stepS st3.sep _ _ rfl st);have Kq:=Gm.step (SP.stepS st3.sep (Z.S.paid P1 (p.fac:Int) ((Q0d 6:Nat):Int)) Z.tb rfl st);have Ai:∃er:Int,rv=.returned (.int .i64 er)/\(er=4∨er=5)/\WhyL Z fr p.fac i s er:=by
     rcases Fi with ⟨Aq,rfl⟩|⟨⟨e,he,AI⟩,rfl⟩
     ·exact⟨4,rfl,.inl rfl,.inr (.inr ⟨A,P1,g6,EL,.inr ⟨rfl,Aq⟩⟩)⟩
     ·exact⟨5,rfl,.inr rfl,.inr (.inr ⟨A,P1,g6,EL,.inl ⟨rfl,e,he,AI⟩⟩)⟩
    obtain⟨er,rfl,BW,hw⟩:=Ai;refine⟨Kq.held st4.sep,er,rfl,.inr ⟨BW,fun w5 Ay=>?_⟩⟩;have st5:=st4.trans (st4.sep.grown Ay);have Ln:=Kq.step (st4.sep.grown Ay);have km:=Q0S (SP.sS st5.sep);have Ij:(Z.S.paid P1 (p.fac:Int) ((Q0d 6:Nat):Int)).P.p=Z.S.P.p:=g6.p;refine⟨?_,?_⟩
    ·have:=km;rw[show((Z.setS (Z.S.paid P1 (p.fac:Int) ((Q0d 6:Nat):Int)) Z.tb).S.P.p)=Z.S.P.p from g6.p] at this;exact this
    obtain⟨ac1,EA⟩:=Q7y ok1 (show(Z.S.paid P1 (p.fac:Int) ((Q0d 6:Nat):Int)).l[i]?=some p from hi) h1;have J9:=t1.paid ok1 EA;rw[J1I,J3d] at J9;obtain⟨c,hc⟩:=PL.cls ok1.inv.mem.pool (by omega:1<=6) (by omega);have kp:=Q3A (CO.sP (SP.sS st5.sep)) ok1.inv.mem.pool (p.fac:Int) EA 6 (by rw[Q3Y];omega) c hc A (by rw[<- Q0I hc];exact Ob) (by omega);rw[show((Z.setS (Z.S.paid P1 (p.fac:Int) ((Q0d 6:Nat):Int)) Z.tb).S.P.p)=Z.S.P.p from g6.p] at kp;refine kp.mono ?_;rintro rv w6⟨rfl,P2,b6,stp⟩;have tr:Tried Z.S.P fr Z.S.l P2:=(g6.gotM ok.inv.mem.pool).back ok.inv.mem (b6.backM ok1.inv.mem.pool)
    have stz:Step Z.hl (Z.setS (Z.S.setP P2) Z.tb).hl w w6:=st5.trans (SP.stepS st5.sep _ _ rfl (CO.stepP (SP.sS st5.sep) P2 b6.p stp));have ME:=Ln.step (Z':=Z.setS (Z.S.setP P2) Z.tb) (SP.stepS st5.sep _ _ rfl (CO.stepP (SP.sS st5.sep) P2 b6.p stp));exact⟨rfl,ME.held stz.sep,.inr ⟨BW,hw,P2,tr,stz⟩⟩
  ·have st':=zstep rfl st;exact⟨(DT.step (SP.stepS s1 _ _ rfl (CO.stepP (SP.sS s1) Z.S.P rfl st))).held st'.sep,0,4,rfl,.inl ⟨.inl rfl,.inr ⟨.inl rfl,.inr (.inl ⟨rfl,Aq⟩),Z.S.P,Tried.refl ok.inv.mem.pool _,st'⟩⟩⟩
theorem Z3e(w:World)(h r:Nat)(hh:h<4294967295)(hr:r<16):Calls prog 104 #[.agg #[.int .u32 h,.int .i64 r]] w (Told w (.int .u64 ((⟨h,r,0⟩:Ent).a:Nat))):=by
 have hn:=Z5B h r hh hr;have hA:=Cells.new w 72 [.int .u32 h,.int .i64 r];have a0:=hA.cell 0 _ rfl;have a1:=hA.cell 1 _ rfl;have hb:Below w.heap.size w (w.alloc (.cells #[.int .u32 h,.int .i64 r] 72)):=(Below.refl _ _).alloc (Z9s _) _;have HB:=Q0a hb;have Q4:(0:Int)<=(h:Int)/\(h:Int)<4294967295:=by omega
 have F3:(0:Int)<=(r:Int)/\(r:Int)<16:=by omega
 obtain⟨q1,q2⟩:=Q4;obtain⟨q3,q4⟩:=F3;generalize ((⟨h,r,0⟩:Ent).a:Nat)=z at *
 clear hA hb hh hr;go_enter func104,ntmps104;go_wp2_with fail
 (try go_ret);exact⟨rfl,HB.out⟩
theorem Q9w{w:World}{Z:SP}{fr:List Nat}{N K:Nat}(hs:Sep w Z.hl)(ok:Z.S.Ok fr N K)(t:TPI Z.S Z.tb){i s x g h r:Nat}{p:Pl}(hi:Z.S.l[i]?=some p)(h1:p.st=1)(h2:p.kind=2)(Bi:s<256)(h0:(Z.tb i).en s=none)(hh:h<4294967295)(hr:r<16)(hg:TblZ Z p g w) :
  Calls prog 98 #[.pointer (some ⟨Z.s,0,none⟩),.agg #[.pointer (some ⟨g,0,none⟩),.int .u32 x,.int .i64 (p.fac:Int)],.int .i64 s,.agg #[.int .u32 h,.int .i64 r]] w fun rv w'=>∃er:Int,rv=.returned (.int .i64 er)/\LayR Z fr N K p.fac i s h r w er w':=by
 have hb:Below w.heap.size w ((w.alloc (.cells #[.pointer (some ⟨g,0,none⟩),.int .u32 x,.int .i64 (p.fac:Int)] 191)).alloc (.cells #[.int .u32 h,.int .i64 r] 72)):=((Below.refl _ _).alloc (Z9s _) _).alloc (by simp) _;have DT:BoxL Z g x p.fac h r w.heap.size ((w.alloc (.cells #[.pointer (some ⟨g,0,none⟩),.int .u32 x,.int .i64 (p.fac:Int)] 191)).alloc (.cells #[.int .u32 h,.int .i64 r] 72)):=by
  refine⟨fun j v hj=>⟨w.heap.size,rfl,fun hk=>by have:=hs.lt hk;omega,by simp;omega,?_⟩,fun j v hj=>⟨w.heap.size+1,rfl,fun hk=>by have:=hs.lt hk;omega,by simp,?_⟩⟩
  ·exact((Cells.new w 191 [.pointer (some ⟨g,0,none⟩),.int .u32 x,.int .i64 (p.fac:Int)]).alloc _).cell j v hj
  ·have:=(Cells.new (w.alloc (.cells #[.pointer (some ⟨g,0,none⟩),.int .u32 x,.int .i64 (p.fac:Int)] 191)) 72 [.int .u32 h,.int .i64 r]).cell j v hj
   simpa using this
 have GW:Hid (∀w1,Below ((w.alloc (.cells #[.pointer (some ⟨g,0,none⟩),.int .u32 x,.int .i64 (p.fac:Int)] 191)).alloc (.cells #[.int .u32 h,.int .i64 r] 72)).heap.size ((w.alloc (.cells #[.pointer (some ⟨g,0,none⟩),.int .u32 x,.int .i64 (p.fac:Int)] 191)).alloc (.cells #[.int .u32 h,.int .i64 r] 72)) w1->HeldL Z g p.fac h r w.heap.size w1/\Calls prog 27 #[.pointer (some ⟨Z.S.c,0,none⟩)] w1 (fun r w'=>r=.returned (.pointer (some ⟨Z.S.P.p,0,none⟩))/\w1=w')/\_):=fun w1 Au=>by
  have Al:Below w.heap.size w w1:=hb.trans (Au.mono (by simp;omega));have s0:=(hs.grown hb).sep;have Cg:=DT.step (s0.grown Au);have s1:=(hs.grown Al).sep;exact⟨Cg.held s1,Q0S (SP.sS s1),Z3d hs Al ok t hi h1 h2 Bi h0 hh hr (hg.grown hs Al) Cg⟩
 have Cj:=(GW.out _ (Below.refl _ _)).1;have CI:=(GW.out _ ((Below.refl _ _).drew)).1;have CM:=(GW.out _ ((Below.refl _ _).drew)).2.1;have Jt:=(GW.out _ ((Below.refl _ _).drew)).2.2;have C5:=Q0a Jt;have Lw:Hid (∀w,Calls prog 104 #[.agg #[.int .u32 h,.int .i64 r]] w (Told w (.int .u64 ((⟨h,r,0⟩:Ent).a:Nat)))):=fun w=>Z3e w h r hh hr
 clear GW DT hb hs ok t hi h1 h2 h0 hg Jt;generalize LayR Z fr N K p.fac i s h r w=Q at *
 unfold HeldL at Cj CI;go_enter func98,ntmps98;go_wp2_with fail
 go_region_held3 (fun w'=>w'.cell? ⟨Z.s,0,none⟩=some (.pointer (some ⟨Z.S.c,0,none⟩))/\w'.cell? ⟨w.heap.size,0,none⟩=some (.pointer (some ⟨g,0,none⟩))/\w'.cell? ⟨w.heap.size,2,none⟩=some (.int .i64 (p.fac:Int))/\w'.cell? ⟨w.heap.size+1,0,none⟩=some (.int .u32 h)/\w'.cell? ⟨w.heap.size+1,1,none⟩=some (.int .i64 r)) (first|exact Cj|exact CI|exact Ak)
  (first|(go_at_call 27;refine CM.mono ?_;rintro r w'⟨rfl,rfl⟩)|(go_at_call 15;refine C5.out.mono ?_;rintro r w2⟨Ak,a,er,rfl,hy⟩;have HY:=Q0a hy;clear hy C5))
 rcases HY.out with ⟨BW,hq⟩|⟨A,rfl,rfl,hA,hy⟩
 ·have HQ:=Q0a hq;clear hq HY Cj CI CM Lw Ak;rcases BW with rfl|rfl
  all_goals
   go_wp2_with fail
   (try go_ret);exact⟨_,rfl,HQ.out⟩
 ·have HS:=Q0a hy;have LI:(0:Int)<=(A:Int):=by omega
  have Oc:(A:Int)<=1073741824:=by omega
  have PJ:IntKind.u64.wrap (A:Int)=(A:Int):=by rw[IntKind.wrap_u64];omega
  have Qt:IntKind.i64.wrap (A:Int)=(A:Int):=Go.IntWalk.i64_in _ (by omega);have Gh:HeldL Z g p.fac h r w.heap.size w2.drew:=Ak;generalize ((⟨h,r,0⟩:Ent).a:Nat)=za at *
  clear hy HY Cj CI CM hA;unfold HeldL at Ak Gh;go_wp2_with fail
  go_region_held3 (fun w'=>w'.cell? ⟨Z.s,0,none⟩=some (.pointer (some ⟨Z.S.c,0,none⟩))/\w'.cell? ⟨w.heap.size,0,none⟩=some (.pointer (some ⟨g,0,none⟩))/\w'.cell? ⟨w.heap.size,2,none⟩=some (.int .i64 (p.fac:Int))/\w'.cell? ⟨w.heap.size+1,0,none⟩=some (.int .u32 h)/\w'.cell? ⟨w.heap.size+1,1,none⟩=some (.int .i64 r)) (first|exact Ak|exact Gh|exact JY|exact Cf)
   (first|(go_at_call 104;refine(Lw.out _).mono ?_;rintro r w3⟨rfl,Ax⟩;have JY:=HeldL.grown Gh Ax;have CU:=Q0a Ax;clear Ax Lw)|(go_at_call 103;refine(HS.out _ (((Below.refl w2.heap.size w2).drew).trans CU.out)).mono ?_;rintro r w4⟨Cf,er,rfl,hz⟩;have HZ:=Q0a hz;clear hz HS))
  rcases HZ.out with ⟨rfl,hq⟩|⟨BW,hy⟩
  ·have HQ:=Q0a hq;clear hq HZ Ak Gh JY Cf;go_wp2_with fail
   (try go_ret);exact⟨_,rfl,HQ.out⟩
  ·have J6:HeldL Z g p.fac h r w.heap.size w4.drew:=Cf;have CM:=(hy _ ((Below.refl _ _).drew)).1;have HP:=Q0a (hy _ ((Below.refl _ _).drew)).2;have GC:(er==0)=false:=by rcases BW with rfl|rfl <;> rfl
   clear hy HZ Ak Gh JY BW;unfold HeldL at Cf J6;go_wp2_with fail
   go_region_held3 (fun w'=>w'.cell? ⟨Z.s,0,none⟩=some (.pointer (some ⟨Z.S.c,0,none⟩))/\w'.cell? ⟨w.heap.size,0,none⟩=some (.pointer (some ⟨g,0,none⟩))/\w'.cell? ⟨w.heap.size,2,none⟩=some (.int .i64 (p.fac:Int))/\w'.cell? ⟨w.heap.size+1,0,none⟩=some (.int .u32 h)/\w'.cell? ⟨w.heap.size+1,1,none⟩=some (.int .i64 r)) (first|exact Cf|exact J6|exact KU)
    (first|(go_at_call 27;refine CM.mono ?_;rintro r w'⟨rfl,rfl⟩)|(go_at_call 21;refine HP.out.mono ?_;rintro r w6⟨rfl,KU,hq⟩;have HQ:=Q0a hq;clear hq HP))
   go_wp2_with fail
   (try go_ret);exact⟨_,rfl,HQ.out⟩
def Z3f(Z:SP)(g f B:Nat)(w':World):Prop:=w'.cell? ⟨Z.s,0,none⟩=some (.pointer (some ⟨Z.S.c,0,none⟩))/\w'.cell? ⟨B,0,none⟩=some (.pointer (some ⟨g,0,none⟩))/\w'.cell? ⟨B,2,none⟩=some (.int .i64 f)
theorem Z0G{w w1:World}{Z:SP}{fr:List Nat}{N K:Nat}(hs:Sep w Z.hl)(hb:Below w.heap.size w w1)(ok:Z.S.Ok fr N K)(t:TPI Z.S Z.tb){i s x g B:Nat}{p:Pl}{e:Ent}(hi:Z.S.l[i]?=some p)(h1:p.st=1)(h2:p.kind=2)(Bi:s<256)(he:(Z.tb i).en s=some e)
  (hg:TblZ Z p g w1) (DT:AsideV Z.hl [.pointer (some ⟨g,0,none⟩),.int .u32 x,.int .i64 (p.fac:Int)] (some ⟨B,0,none⟩) w1) :
  Calls prog 173 #[.pointer (some ⟨g,0,none⟩),.int .i64 s] w1 fun rv w2=>rv=.returned (.int .i64 0)/\Z3f Z g p.fac B w2/\e.nd<=1073741824/\∀w3,Below w2.heap.size w2 w3 ->
   Calls prog 27 #[.pointer (some ⟨Z.S.c,0,none⟩)] w3 (fun r w'=>r=.returned (.pointer (some ⟨Z.S.P.p,0,none⟩))/\w3=w') /\
   Calls prog 21 #[.pointer (some ⟨Z.S.P.p,0,none⟩),.int .i64 (p.fac:Int),.int .i64 6,.int .i64 (e.nd:Int)] w3 fun rv w4=>rv=.returned (.int .i64 0)/\Z3f Z g p.fac B w4/\Z7O Z fr N K p.fac i s none w w4:=by
 have s1:=(hs.grown hb).sep;have AX:∃q∈Z.S.l,q.st=1/\(q.fac:Int)=(p.fac:Int):=⟨p,J1x hi,h1,rfl⟩
 have Ao:=Q1B ok.inv.len hi;refine(Z0F ok (t.x (p.fac:Int)) hi h1 h2 rfl Bi he (SP.sS s1) hg.c).mono ?_;rintro rv w2⟨rfl,S1,t',ok1,t1,en,full,lf,al,st⟩;have st1z:=SP.stepS s1 S1 (updT Z.tb i t') al.c st;have st1:Step Z.hl (Z.setS S1 (updT Z.tb i t')).hl w w2:=(hs.grown hb).trans st1z;have Cg:=AsideV.step DT st1z;have Ow:e.nd∈S1.P.usedOf 6:=t1.nds.mem_iff.1 (by simp);have hm:=Q0l ok1.inv.mem.pool Ow;have Lc:=Q0f ok1.inv.mem.pool;have Cj:∀{w3:World} {Z':SP},Z'.s=Z.s->Z'.S.c=Z.S.c->Sep w3 Z'.hl->AsideV Z'.hl [.pointer (some ⟨g,0,none⟩),.int .u32 x,.int .i64 (p.fac:Int)] (some ⟨B,0,none⟩) w3->Z3f Z g p.fac B w3:=fun {w3 Z'} e1 e2 hz hx=>by
  have:=SP.c0 hz;rw[e1,e2] at this;exact⟨this,hx.at 0 _ rfl,hx.at 2 _ rfl⟩
 refine⟨rfl,Cj (Z':=Z.setS S1 (updT Z.tb i t')) rfl al.c st1.sep Cg,by omega,fun w3 Ax=>?_⟩;have st3:=st1.trans (st1.sep.grown Ax);have Gm:=AsideV.step Cg (st1.sep.grown Ax);have F6:S1.l[i]?=some p:=by rw[al.l];exact hi
 have km:=Q0S (SP.sS st3.sep);have Ij:(Z.setS S1 (updT Z.tb i t')).S.P.p=Z.S.P.p:=al.same.p;have Cd:(Z.setS S1 (updT Z.tb i t')).S.c=Z.S.c:=al.c;rw[Ij,Cd] at km;refine⟨km,?_⟩;obtain⟨ac1,EA⟩:=Q7y ok1 F6 h1;have J9:=t1.paid ok1 EA;rw[J1I,J3d] at J9;obtain⟨c,hc⟩:=PL.cls ok1.inv.mem.pool (by omega:1<=6) (by omega);have kp:=Q3A (CO.sP (SP.sS st3.sep)) ok1.inv.mem.pool (p.fac:Int) EA 6 (by rw[Q3Y];omega) c hc e.nd (by rw[<- Q0I hc];exact Ow) (by omega);rw[Ij] at kp;refine kp.mono ?_;rintro rv w4⟨rfl,P2,b6,stp⟩;have Kn:∃q∈S1.l,q.st=1/\(q.fac:Int)=(p.fac:Int):=by rw[al.l];exact AX
 obtain⟨ok2,t2⟩:=TPX.put (xl:=[]) (xn:=[]) ok1 (.inl rfl) (by rw[if_neg (by decide),if_pos rfl];exact t1) b6 Kn;have al2:=al.trans (Alt.put ok1 b6);have stz:Step (Z.setS S1 (updT Z.tb i t')).hl ((Z.setS S1 (updT Z.tb i t')).setS (S1.paid P2 (p.fac:Int) (-((Q0d 6:Nat):Int))) (updT Z.tb i t')).hl w3 w4:=SP.stepS st3.sep _ _ rfl (CO.stepPaid (SP.sS st3.sep) P2 (p.fac:Int) _ b6.p stp);have stf:Step Z.hl (Z.setS (S1.paid P2 (p.fac:Int) (-((Q0d 6:Nat):Int))) (updT Z.tb i t')).hl w w4:=st3.trans stz;refine⟨rfl,Cj (Z':=Z.setS (S1.paid P2 (p.fac:Int) (-((Q0d 6:Nat):Int))) (updT Z.tb i t')) rfl al2.c stf.sep (AsideV.step Gm stz),_,t',⟨ok2,t2.done fun j hj=>?_,en,lf,al2⟩,stf⟩
 by_cases ej:j=i
 ·subst ej;rw[updT_same];exact full (t.full j hj)
 ·rw[Q0K ej];exact t.full j hj
theorem Q7A{w:World}{Z:SP}{fr:List Nat}{N K:Nat}(hs:Sep w Z.hl)(ok:Z.S.Ok fr N K)(t:TPI Z.S Z.tb){i s x g:Nat}{p:Pl}{e:Ent}(hi:Z.S.l[i]?=some p)(h1:p.st=1)(h2:p.kind=2)(Bi:s<256)(he:(Z.tb i).en s=some e)(hg:TblZ Z p g w) :
  Calls prog 99 #[.pointer (some ⟨Z.s,0,none⟩),.agg #[.pointer (some ⟨g,0,none⟩),.int .u32 x,.int .i64 (p.fac:Int)],.int .i64 s] w fun rv w'=>rv=.returned (.tuple #[])/\Z7O Z fr N K p.fac i s none w w':=by
 have hb:Below w.heap.size w (w.alloc (.cells #[.pointer (some ⟨g,0,none⟩),.int .u32 x,.int .i64 (p.fac:Int)] 191)):=(Below.refl _ _).alloc (Z9s _) _;have DT:AsideV Z.hl [.pointer (some ⟨g,0,none⟩),.int .u32 x,.int .i64 (p.fac:Int)] (some ⟨w.heap.size,0,none⟩) (w.alloc (.cells #[.pointer (some ⟨g,0,none⟩),.int .u32 x,.int .i64 (p.fac:Int)] 191)):=fun j v hj=>⟨w.heap.size,rfl,fun hk=>by have:=hs.lt hk;omega,by simp,(Cells.new w 191 [.pointer (some ⟨g,0,none⟩),.int .u32 x,.int .i64 (p.fac:Int)]).cell j v hj⟩
 have T1:=(t.x (p.fac:Int)).tt ok hi h1 h2 (SP.sS (hs.grown hb).sep) (hg.grown hs hb).c;have kg:=Q6E T1 (s:Int);rw[show(Z.tb i).at' (s:Int)=some e by unfold TB.at';rw[if_pos ⟨by omega,by omega⟩,J0o,he]] at kg;have kc:=Z0G hs hb ok t hi h1 h2 Bi he (hg.grown hs hb) DT;have HK:=Q0a kc;have b0:=DT.at 0 _ rfl;unfold getV Q0L at kg;generalize Q0q (some e)=ca at *
 clear hb hs ok t hi h1 h2 he hg T1 kc DT;go_enter func99,ntmps99;go_wp2_with fail;refine kg.mono ?_;rintro r w1⟨rfl,rfl⟩;go_wp2_with fail;refine HK.out.mono ?_;rintro r w2⟨rfl,Ak,AE,hy⟩;have CM:=(hy _ ((Below.refl _ _).drew)).1;have HP:=Q0a (hy _ ((Below.refl _ _).drew)).2;clear hy HK kg;have EH:Z3f Z g p.fac w.heap.size w2.drew:=Ak;generalize e.nd=nd at *
 have Ev:(0:Int)<=(nd:Int)/\(nd:Int)<=1073741824:=by omega
 obtain⟨n0,n1⟩:=Ev;have PJ:IntKind.u64.wrap (nd:Int)=(nd:Int):=by rw[IntKind.wrap_u64];omega
 have Qt:IntKind.i64.wrap (nd:Int)=(nd:Int):=Go.IntWalk.i64_in _ (by omega);unfold Z3f at Ak EH;go_wp2_with fail
 go_region_held3 (fun w'=>w'.cell? ⟨Z.s,0,none⟩=some (.pointer (some ⟨Z.S.c,0,none⟩))/\w'.cell? ⟨w.heap.size,0,none⟩=some (.pointer (some ⟨g,0,none⟩))/\w'.cell? ⟨w.heap.size,2,none⟩=some (.int .i64 (p.fac:Int))) (first|exact Ak|exact EH|exact DK)
  (first|(go_at_call 27;refine CM.mono ?_;rintro r w'⟨rfl,rfl⟩)|(go_at_call 21;refine HP.out.mono ?_;rintro r w4⟨rfl,DK,hq⟩;have HQ:=Q0a hq;clear hq HP))
 go_wp2_with fail
 first|exact⟨rfl,HQ.out⟩|(go_end0;exact⟨rfl,HQ.out⟩)
theorem Z7P{N:List (En Nd)}(hs:N.Pairwise (fun a b=>(a.q.sp,a.q.sl)≠(b.q.sp,b.q.sl)))(Ag:N.Pairwise (fun a b=>a.id≠b.id)){id:Int}{e:En Nd}(hf:find N id=some e):delS (okv N) (e.q.sp,e.q.sl)=okv (rem N id):=by
 obtain⟨A,B,hN,_,hr⟩:=Q3Q Ag hf;rw[hr];rw[hN,Z9X,Z9Q] at hs;obtain⟨_,⟨hB,_⟩,hA⟩:=hs
 conv=>lhs;rw[hN]
 unfold delS okv;rw[J2J,Z9v,J1g,J3m,J2J];have a1:List.filter (fun q=>decide (q.1≠(e.q.sp,e.q.sl))) (A.map fun e=>((e.q.sp,e.q.sl),Value.int .i64 e.id))=A.map fun e=>((e.q.sp,e.q.sl),Value.int .i64 e.id):=by
  rw[J3i];intro x hx;obtain⟨c,hc,rfl⟩:=Z9y.1 hx;show decide ((c.q.sp,c.q.sl)≠(e.q.sp,e.q.sl))=true;exact decide_eq_true (hA c hc e (by simp))
 have a2:List.filter (fun q=>decide (q.1≠(e.q.sp,e.q.sl))) (B.map fun e=>((e.q.sp,e.q.sl),Value.int .i64 e.id))=B.map fun e=>((e.q.sp,e.q.sl),Value.int .i64 e.id):=by
  rw[J3i];intro x hx;obtain⟨c,hc,rfl⟩:=Z9y.1 hx;show decide ((c.q.sp,c.q.sl)≠(e.q.sp,e.q.sl))=true;exact decide_eq_true (hB c hc).symm
 rw[a1,a2,if_neg (by simp)]
def FO.cut(q:FO)(id:Int):FO:={q with N:=rem q.N id}
theorem FO.cut_perm{q:FO}(Ag:q.N.Pairwise (fun a b=>a.id≠b.id)){id:Int}{e:En Nd}(hf:find q.N id=some e) :
  (q.head::(q.m,isMI (kvs (rem q.N id)))::(q.o,isMS (okv (rem q.N id)))::q.N.flatMap (ndH q.kr)).Perm ((q.cut id).hl++ndH q.kr e):=by
 obtain⟨A,B,hN,_,hr⟩:=Q3Q Ag hf;have e1:(q.cut id).hl=q.head::(q.m,isMI (kvs (rem q.N id)))::(q.o,isMS (okv (rem q.N id)))::(A.flatMap (ndH q.kr)++B.flatMap (ndH q.kr)):=by
  show q.head::(q.m,isMI (kvs (rem q.N id)))::(q.o,isMS (okv (rem q.N id)))::(rem q.N id).flatMap (ndH q.kr)=_;rw[hr,Z9U]
 have e2:q.N.flatMap (ndH q.kr)=A.flatMap (ndH q.kr)++(ndH q.kr e++B.flatMap (ndH q.kr)):=by
  conv=>lhs;rw[hN]
  rw[Z9U,Z9O]
 rw[e1,e2];simp only[J1u];refine List.Perm.cons _ (List.Perm.cons _ (List.Perm.cons _ ?_));rw[J0j];exact J2a _ J1X
theorem FO.spots_ok{q:FO}(hn:∀e∈q.N,0<=e.q.sp/\e.q.sp<4294967296/\0<=e.q.sl/\e.q.sl<256):∀p∈okv q.N,Q1o prog 173 p.1:=fun p hp=>by
 obtain⟨c,hc,rfl⟩:=Z9y.1 hp;obtain⟨h1,h2,h3,h4⟩:=hn c hc;exact Q5c (p:=(c.q.sp,c.q.sl)) h1 (by show c.q.sp<_;omega) h3 (by show c.q.sl<_;omega)
theorem FO.okv_nd{N:List (En Nd)}(hs:N.Pairwise (fun a b=>(a.q.sp,a.q.sl)≠(b.q.sp,b.q.sl))):(okv N).Pairwise (fun a b=>a.1≠b.1):=by
 unfold okv;exact Z9T.2 hs
theorem FO.delSteps{w:World}{q:FO}(h:Sep w q.hl)(Ag:q.N.Pairwise (fun a b=>a.id≠b.id))(hs:q.N.Pairwise (fun a b=>(a.q.sp,a.q.sl)≠(b.q.sp,b.q.sl)))(hn:∀e∈q.N,0<=e.q.sp/\e.q.sp<4294967296/\0<=e.q.sl/\e.q.sl<256)
  {id:Int} {e:En Nd} (hf:find q.N id=some e) (t1 t2 t3 t4:TypeId) :
  ∃w3,(Builtin.delete_ #[280,t1] t2 #[.map (some q.m),.int .i64 id]).run prog w=.ok (.tuple #[]) w3/\Step q.hl (q.head::(q.m,isMI (kvs (rem q.N id)))::(q.o,isMS (okv q.N))::q.N.flatMap (ndH q.kr)) w w3 /\
   ∀w3',Below w3.heap.size w3 w3'->∃w4,(Builtin.delete_ #[281,t3] t4 #[.map (some q.o),.agg #[.int .i64 e.q.sp,.int .i64 e.q.sl]]).run prog w3'=.ok (.tuple #[]) w4/\Step q.hl ((q.cut id).hl++ndH q.kr e) w w4:=by
 obtain⟨B5,EE⟩:=Q0e hf;obtain⟨w3,r3,m3,g3⟩:=Q3c (FO.map h) id t1 t2 underlying280 underlying3;rw[Z6U] at m3;obtain⟨es,Af,ho,hr⟩:=m3;have s3:=Sep.turn (A:=[q.head]) (B:=(q.o,isMS (okv q.N))::q.N.flatMap (ndH q.kr)) (q':=isMI (kvs (rem q.N id))) h g3 ⟨_,ho,es,Af,rfl,hr⟩;refine⟨w3,r3,s3,fun w3' hb=>?_⟩;have s3':=s3.trans (s3.sep.grown hb);have m3':Q2z w3' q.o (okv q.N):=s3'.sep.map (by simp[isMS]);have Iw:=hn e B5;obtain⟨w4,r4,m4,g4⟩:=Q4Y m3' Q8v (FO.okv_nd hs) (FO.spots_ok hn) (Q5c (p:=(e.q.sp,e.q.sl)) Iw.1 (by show e.q.sp<_;omega) Iw.2.2.1 (by show e.q.sl<_;omega)) t3 t4 underlying281
 rw[Z7P hs Ag hf] at m4;obtain⟨es4,DA,LY,IL⟩:=m4;have s4:=Sep.turn (A:=[q.head,(q.m,isMI (kvs (rem q.N id)))]) (B:=q.N.flatMap (ndH q.kr)) (q':=isMS (okv (rem q.N id))) s3'.sep g4 ⟨_,LY,es4,DA,rfl,IL⟩;exact⟨w4,r4,(s3'.trans s4).perm (J2A _) (FO.cut_perm Ag hf)⟩
end Go.Proofs.YtfidemmgofcnmaaGreatDoor
