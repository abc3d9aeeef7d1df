/- What the laws of spaces share is proved. No condition. Part of a proof. -/
import Derived.Test.YtlakjlmaboioiaaGreatDoorVa19
set_option maxHeartbeats 4000000
set_option maxRecDepth 100000
set_option linter.unusedVariables false
namespace Go.Proofs.YtlakjlmaboioiaaGreatDoor
open Go.RowKit Go.Proofs.Tryz
def Z6y (Z:SP) (g f B:Nat) (w':World):Prop:=w'.cell? ⟨Z.s,0,none⟩=some (.pointer (some ⟨Z.S.c,0,none⟩))/\w'.cell? ⟨B,0,none⟩=some (.pointer (some ⟨g,0,none⟩))/\w'.cell? ⟨B,2,none⟩=some (.int .i64 f)
theorem Z3r {w w1:World} {Z:SP} {fr:List Nat} {N K:Nat} (hs:Sep w Z.hl) (hb:Below w.heap.size w w1) (ok:Z.S.Ok fr N K) (t:TPI Z.S Z.tb) {i s x g B:Nat} {p:Pl} {e:Ent} (hi:Z.S.l[i]?=some p) (h1:p.st=1) (h2:p.kind=2) (A9:s<256) (he:(Z.tb i).en s=some e)
  (hg:TblZ Z p g w1) (BY:AsideV Z.hl [.pointer (some ⟨g,0,none⟩),.int .u32 x,.int .i64 (p.fac:Int)] (some ⟨B,0,none⟩) w1) :
  Calls prog 165 #[.pointer (some ⟨g,0,none⟩),.int .i64 s] w1 fun rv w2=>rv=.returned (.int .i64 0)/\Z6y Z g p.fac B w2/\e.nd<=1073741824/\∀w3,Below w2.heap.size w2 w3 ->
   Calls prog 49 #[.pointer (some ⟨Z.S.c,0,none⟩)] w3 (fun r w'=>r=.returned (.pointer (some ⟨Z.S.P.p,0,none⟩))/\w3=w') /\
   Calls prog 159 #[.pointer (some ⟨Z.S.P.p,0,none⟩),.int .i64 (p.fac:Int),.int .i64 6,.int .i64 (e.nd:Int)] w3 fun rv w4=>rv=.returned (.int .i64 0)/\Z6y Z g p.fac B w4/\J0K Z fr N K p.fac i s none w w4:=by
 have s1:=(hs.grown hb).sep;have Bc:∃q∈Z.S.l,q.st=1/\(q.fac:Int)=(p.fac:Int):=⟨p,J4v hi,h1,rfl⟩
 have An:=Q1r ok.inv.len hi;refine (Z3q ok (t.x (p.fac:Int)) hi h1 h2 rfl A9 he (SP.sS s1) hg.c).mono ?_;rintro rv w2 ⟨rfl,S1,t',ok1,t1,en,full,lf,al,st⟩;have st1z:=SP.stepS s1 S1 (updT Z.tb i t') al.c st;have st1:Step Z.hl (Z.setS S1 (updT Z.tb i t')).hl w w2:=(hs.grown hb).trans st1z;have Da:=AsideV.step BY st1z;have Oj:e.nd∈S1.P.usedOf 6:=t1.nds.mem_iff.1 (by simp);have hm:=Q0m ok1.inv.mem.pool Oj;have GI:=Q0p ok1.inv.mem.pool;have BT:∀{w3:World} {Z':SP},Z'.s=Z.s->Z'.S.c=Z.S.c->Sep w3 Z'.hl->AsideV Z'.hl [.pointer (some ⟨g,0,none⟩),.int .u32 x,.int .i64 (p.fac:Int)] (some ⟨B,0,none⟩) w3->Z6y Z g p.fac B w3:=fun {w3 Z'} e1 e2 hz hx=>by
  have:=SP.c0 hz;rw [e1,e2] at this;exact⟨this,hx.at 0 _ rfl,hx.at 2 _ rfl⟩
 refine⟨rfl,BT (Z':=Z.setS S1 (updT Z.tb i t')) rfl al.c st1.sep Da,by omega,fun w3 As=>?_⟩;have st3:=st1.trans (st1.sep.grown As);have Jd:=AsideV.step Da (st1.sep.grown As);have Gw:S1.l[i]?=some p:=by rw [al.l];exact hi
 have km:=Q2e (SP.sS st3.sep);have Iy:(Z.setS S1 (updT Z.tb i t')).S.P.p=Z.S.P.p:=al.same.p;have A6:(Z.setS S1 (updT Z.tb i t')).S.c=Z.S.c:=al.c;rw [Iy,A6] at km;refine⟨km,?_⟩;obtain⟨ac1,GY⟩:=Q9w ok1 Gw h1;have Nj:=t1.paid ok1 GY;rw [J4G,J6i] at Nj;obtain⟨c,hc⟩:=PL.cls ok1.inv.mem.pool (by omega:1<=6) (by omega);have kp:=Q4C (CO.sP (SP.sS st3.sep)) ok1.inv.mem.pool (p.fac:Int) GY 6 (by rw [Q5j];omega) c hc e.nd (by rw [<- Q0T hc];exact Oj) (by omega);rw [Iy] at kp;refine kp.mono ?_;rintro rv w4 ⟨rfl,P2,b6,stp⟩;have Mn:∃q∈S1.l,q.st=1/\(q.fac:Int)=(p.fac:Int):=by rw [al.l];exact Bc
 obtain⟨ok2,t2⟩:=TPX.put (xl:=[]) (xn:=[]) ok1 (.inl rfl) (by rw [if_neg (by decide),if_pos rfl];exact t1) b6 Mn;have al2:=al.trans (Alt.put ok1 b6);have stz:Step (Z.setS S1 (updT Z.tb i t')).hl ((Z.setS S1 (updT Z.tb i t')).setS (S1.paid P2 (p.fac:Int) (-((Q0c 6:Nat):Int))) (updT Z.tb i t')).hl w3 w4:=SP.stepS st3.sep _ _ rfl (CO.stepPaid (SP.sS st3.sep) P2 (p.fac:Int) _ b6.p stp);have stf:Step Z.hl (Z.setS (S1.paid P2 (p.fac:Int) (-((Q0c 6:Nat):Int))) (updT Z.tb i t')).hl w w4:=st3.trans stz;refine⟨rfl,BT (Z':=Z.setS (S1.paid P2 (p.fac:Int) (-((Q0c 6:Nat):Int))) (updT Z.tb i t')) rfl al2.c stf.sep (AsideV.step Jd stz),_,t',⟨ok2,t2.done fun j hj=>?_,en,lf,al2⟩,stf⟩
 by_cases ej:j=i
 ·subst ej;rw [updT_same];exact full (t.full j hj)
 ·rw [Q0W ej];exact t.full j hj
theorem Q4S {w:World} {Z:SP} {fr:List Nat} {N K:Nat} (hs:Sep w Z.hl) (ok:Z.S.Ok fr N K) (t:TPI Z.S Z.tb) {i s x g:Nat} {p:Pl} {e:Ent} (hi:Z.S.l[i]?=some p) (h1:p.st=1) (h2:p.kind=2) (A9:s<256) (he:(Z.tb i).en s=some e) (hg:TblZ Z p g w) :
  Calls prog 81 #[.pointer (some ⟨Z.s,0,none⟩),.agg #[.pointer (some ⟨g,0,none⟩),.int .u32 x,.int .i64 (p.fac:Int)],.int .i64 s] w fun rv w'=>rv=.returned (.tuple #[])/\J0K Z fr N K p.fac i s none w w':=by
 have hb:Below w.heap.size w (w.alloc (.cells #[.pointer (some ⟨g,0,none⟩),.int .u32 x,.int .i64 (p.fac:Int)] 155)):=(Below.refl _ _).alloc (J2h _) _;have BY:AsideV Z.hl [.pointer (some ⟨g,0,none⟩),.int .u32 x,.int .i64 (p.fac:Int)] (some ⟨w.heap.size,0,none⟩) (w.alloc (.cells #[.pointer (some ⟨g,0,none⟩),.int .u32 x,.int .i64 (p.fac:Int)] 155)):=fun j v hj=>⟨w.heap.size,rfl,fun hk=>by have:=hs.lt hk;omega,by simp,(Cells.new w 155 [.pointer (some ⟨g,0,none⟩),.int .u32 x,.int .i64 (p.fac:Int)]).cell j v hj⟩
 have T1:=(t.x (p.fac:Int)).tt ok hi h1 h2 (SP.sS (hs.grown hb).sep) (hg.grown hs hb).c;have kg:=Q3L T1 (s:Int);rw [show (Z.tb i).at' (s:Int)=some e by unfold TB.at';rw [if_pos ⟨by omega,by omega⟩,J3m,he]] at kg;have kc:=Z3r hs hb ok t hi h1 h2 A9 he (hg.grown hs hb) BY;have HK:=Q0a kc;have b0:=BY.at 0 _ rfl;unfold getV Q0V at kg;generalize Q0s (some e)=ca at *
 clear hb hs ok t hi h1 h2 he hg T1 kc BY;go_enter func81,ntmps81;go_wp2_with fail;refine kg.mono ?_;rintro r w1 ⟨rfl,rfl⟩;go_wp2_with fail;refine HK.out.mono ?_;rintro r w2 ⟨rfl,Ah,AD,hy⟩;have CI:=(hy _ ((Below.refl _ _).drew)).1;have HP:=Q0a (hy _ ((Below.refl _ _).drew)).2;clear hy HK kg;have G7:Z6y Z g p.fac w.heap.size w2.drew:=Ah;generalize e.nd=nd at *
 have Dw:(0:Int)<=(nd:Int)/\(nd:Int)<=1073741824:=by omega
 obtain⟨n0,n1⟩:=Dw;have Sk:IntKind.u64.wrap (nd:Int)=(nd:Int):=by rw [IntKind.wrap_u64];omega
 have Oa:IntKind.i64.wrap (nd:Int)=(nd:Int):=Go.IntWalk.i64_in _ (by omega);unfold Z6y at Ah G7;go_wp2_with fail
 go_region_held3 (fun w'=>w'.cell? ⟨Z.s,0,none⟩=some (.pointer (some ⟨Z.S.c,0,none⟩))/\w'.cell? ⟨w.heap.size,0,none⟩=some (.pointer (some ⟨g,0,none⟩))/\w'.cell? ⟨w.heap.size,2,none⟩=some (.int .i64 (p.fac:Int))) (first|exact Ah|exact G7|exact Db)
  (first|(go_at_call 49;refine CI.mono ?_;rintro r w' ⟨rfl,rfl⟩)|(go_at_call 159;refine HP.out.mono ?_;rintro r w4 ⟨rfl,Db,hq⟩;have HQ:=Q0a hq;clear hq HP))
 go_wp2_with fail
 first|exact⟨rfl,HQ.out⟩|(go_end0;exact⟨rfl,HQ.out⟩)
theorem J0L {N:List (En Nd)} (hs:N.Pairwise (fun a b=>(a.q.sp,a.q.sl)≠(b.q.sp,b.q.sl))) (Ae:N.Pairwise (fun a b=>a.id≠b.id)) {id:Int} {e:En Nd} (hf:find N id=some e):delS (okv N) (e.q.sp,e.q.sl)=okv (rem N id):=by
 obtain⟨A,B,hN,_,hr⟩:=Q3b Ae hf;rw [hr];rw [hN,J2U,J2I] at hs;obtain⟨_,⟨hB,_⟩,hA⟩:=hs
 conv=>lhs;rw [hN]
 unfold delS okv;rw [J5K,J2k,J4e,J6s,J5K];have a1:List.filter (fun q=>decide (q.1≠(e.q.sp,e.q.sl))) (A.map fun e=>((e.q.sp,e.q.sl),Value.int .i64 e.id))=A.map fun e=>((e.q.sp,e.q.sl),Value.int .i64 e.id):=by
  rw [J6o];intro x hx;obtain⟨c,hc,rfl⟩:=J2n.1 hx;show decide ((c.q.sp,c.q.sl)≠(e.q.sp,e.q.sl))=true;exact decide_eq_true (hA c hc e (by simp))
 have a2:List.filter (fun q=>decide (q.1≠(e.q.sp,e.q.sl))) (B.map fun e=>((e.q.sp,e.q.sl),Value.int .i64 e.id))=B.map fun e=>((e.q.sp,e.q.sl),Value.int .i64 e.id):=by
  rw [J6o];intro x hx;obtain⟨c,hc,rfl⟩:=J2n.1 hx;show decide ((c.q.sp,c.q.sl)≠(e.q.sp,e.q.sl))=true;exact decide_eq_true (hB c hc).symm
 rw [a1,a2,if_neg (by simp)]
def FO.cut (q:FO) (id:Int):FO:={q with N:=rem q.N id}
theorem FO.cut_perm {q:FO} (Ae:q.N.Pairwise (fun a b=>a.id≠b.id)) {id:Int} {e:En Nd} (hf:find q.N id=some e) :
  (q.head::(q.m,isMI (kvs (rem q.N id)))::(q.o,isMS (okv (rem q.N id)))::q.N.flatMap (ndH q.kr)).Perm ((q.cut id).hl++ndH q.kr e):=by
 obtain⟨A,B,hN,_,hr⟩:=Q3b Ae hf;have e1:(q.cut id).hl=q.head::(q.m,isMI (kvs (rem q.N id)))::(q.o,isMS (okv (rem q.N id)))::(A.flatMap (ndH q.kr)++B.flatMap (ndH q.kr)):=by
  show q.head::(q.m,isMI (kvs (rem q.N id)))::(q.o,isMS (okv (rem q.N id)))::(rem q.N id).flatMap (ndH q.kr)=_;rw [hr,J2P]
 have e2:q.N.flatMap (ndH q.kr)=A.flatMap (ndH q.kr)++(ndH q.kr e++B.flatMap (ndH q.kr)):=by
  conv=>lhs;rw [hN]
  rw [J2P,J2E]
 rw [e1,e2];simp only [J4s];refine List.Perm.cons _ (List.Perm.cons _ (List.Perm.cons _ ?_));rw [J3h];exact J4W _ J4U
theorem FO.spots_ok {q:FO} (hn:∀e∈q.N,0<=e.q.sp/\e.q.sp<4294967296/\0<=e.q.sl/\e.q.sl<256):∀p∈okv q.N,Q1N prog 46 p.1:=fun p hp=>by
 obtain⟨c,hc,rfl⟩:=J2n.1 hp;obtain⟨h1,h2,h3,h4⟩:=hn c hc;exact Q3q (p:=(c.q.sp,c.q.sl)) h1 (by show c.q.sp<_;omega) h3 (by show c.q.sl<_;omega)
theorem FO.okv_nd {N:List (En Nd)} (hs:N.Pairwise (fun a b=>(a.q.sp,a.q.sl)≠(b.q.sp,b.q.sl))):(okv N).Pairwise (fun a b=>a.1≠b.1):=by
 unfold okv;exact J2M.2 hs
theorem FO.delSteps {w:World} {q:FO} (h:Sep w q.hl) (Ae:q.N.Pairwise (fun a b=>a.id≠b.id)) (hs:q.N.Pairwise (fun a b=>(a.q.sp,a.q.sl)≠(b.q.sp,b.q.sl))) (hn:∀e∈q.N,0<=e.q.sp/\e.q.sp<4294967296/\0<=e.q.sl/\e.q.sl<256)
  {id:Int} {e:En Nd} (hf:find q.N id=some e) (t1 t2 t3 t4:TypeId) :
  ∃w3,(Builtin.delete_ #[279,t1] t2 #[.map (some q.m),.int .i64 id]).run prog w=.ok (.tuple #[]) w3/\Step q.hl (q.head::(q.m,isMI (kvs (rem q.N id)))::(q.o,isMS (okv q.N))::q.N.flatMap (ndH q.kr)) w w3 /\
   ∀w3',Below w3.heap.size w3 w3'->∃w4,(Builtin.delete_ #[280,t3] t4 #[.map (some q.o),.agg #[.int .i64 e.q.sp,.int .i64 e.q.sl]]).run prog w3'=.ok (.tuple #[]) w4/\Step q.hl ((q.cut id).hl++ndH q.kr e) w w4:=by
 obtain⟨BS,Fg⟩:=Q0b hf;obtain⟨w3,r3,m3,g3⟩:=Q3X (FO.map h) id t1 t2 underlying279 underlying3;rw [Q7Y] at m3;obtain⟨es,Ai,ho,hr⟩:=m3;have s3:=Sep.turn (A:=[q.head]) (B:=(q.o,isMS (okv q.N))::q.N.flatMap (ndH q.kr)) (q':=isMI (kvs (rem q.N id))) h g3 ⟨_,ho,es,Ai,rfl,hr⟩;refine⟨w3,r3,s3,fun w3' hb=>?_⟩;have s3':=s3.trans (s3.sep.grown hb);have m3':Q3m w3' q.o (okv q.N):=s3'.sep.map (by simp [isMS]);have Ib:=hn e BS;obtain⟨w4,r4,m4,g4⟩:=Q6u m3' Z0U (FO.okv_nd hs) (FO.spots_ok hn) (Q3q (p:=(e.q.sp,e.q.sl)) Ib.1 (by show e.q.sp<_;omega) Ib.2.2.1 (by show e.q.sl<_;omega)) t3 t4 underlying280
 rw [J0L hs Ae hf] at m4;obtain⟨es4,Ff,QG,LN⟩:=m4;have s4:=Sep.turn (A:=[q.head,(q.m,isMI (kvs (rem q.N id)))]) (B:=q.N.flatMap (ndH q.kr)) (q':=isMS (okv (rem q.N id))) s3'.sep g4 ⟨_,QG,es4,Ff,rfl,LN⟩;exact⟨w4,r4,(s3'.trans s4).perm (J5A _) (FO.cut_perm Ae hf)⟩
theorem Z2e (f:En Nd->Nd):∀(N:List (En Nd)) (id:Int),rem (mapE f N) id=mapE f (rem N id)
 | [],_=>rfl
 | c::r,id=>by
  show rem ({c with q:=f c}::mapE f r) id=mapE f (rem (c::r) id);unfold rem;show (if id=c.id then mapE f r else {c with q:=f c}::rem (mapE f r) id)=_;rw [Z2e f r id];split <;> rfl
theorem Q9D {N:List (En Nd)} (Ae:N.Pairwise (fun a b=>a.id≠b.id)) {c p:En Nd} {id:Int} (hc:c∈N) (hi:c.id=id) (hp:find N id=some p):c=p:=by
 have:=Q0g Ae hc;rw [hi,hp] at this;exact (J3e this).symm
def cutK (p:Nd) (id:Int):Nd:={p with ks:=p.ks.filter fun k=>decide (k≠id)}
theorem Z8X {N:List (En Nd)} (Ae:N.Pairwise (fun a b=>a.id≠b.id)) {e p:En Nd} (hp:find N e.q.par=some p) :
  rem (mapE (fun c=>if c.id=e.q.par then cutK p.q e.id else c.q) N) e.id=Q0C N e 0:=by
 rw [Z2e];unfold Q0C;refine Q5k fun c hc=>?_
 have Wb:=Q7Z hc;unfold Q0t;rw [J5G];by_cases h:c.id=e.q.par
 ·have:=Q9D Ae Wb h hp;subst this;simp [h,cutK]
 ·simp [h]
theorem Z6z {N:List (En Nd)} {e:En Nd} (h:∀c∈N,c.id≠e.q.par):rem N e.id=Q0C N e 0:=by
 unfold Q0C;rw [Z0O];intro c hc;have:=h c (Q7Z hc);unfold Q0t;simp [this]
theorem Q6D {N:List (En Nd)} (Ae:N.Pairwise (fun a b=>a.id≠b.id)) (e:En Nd) (j:Nat):(Q0C N e j).Pairwise (fun a b=>a.id≠b.id):=Q2f (fun _ _ h=>h) (Ae.sublist (Q1B N e.id))
theorem Q6E {N:List (En Nd)} (Ae:N.Pairwise (fun a b=>a.id≠b.id)) (e:En Nd) (j:Nat) (id:Int):find (Q0C N e j) id=if id=e.id then none else (find N id).map fun c=>{c with q:=Q0t e j c}:=by
 unfold Q0C;rw [Q1u,Q2m Ae];split <;> rfl
theorem Z6A {N:List (En Nd)} (Ae:N.Pairwise (fun a b=>a.id≠b.id)) {e:En Nd} {j:Nat} {k:Int} (hk:e.q.ks[j]?=some k) (AD:e.q.ks.Nodup) {c p:En Nd} (hc:find (Q0C N e j) k=some c) (I3:k≠e.q.par)
  (hp:find (mapE (fun d=>if d.id=k then {c.q with par:=e.q.par} else d.q) (Q0C N e j)) e.q.par=some p) :
  mapE (fun d=>if d.id=e.q.par then {p.q with ks:=p.q.ks++[k]} else d.q) (mapE (fun d=>if d.id=k then {c.q with par:=e.q.par} else d.q) (Q0C N e j))=Q0C N e (j+1):=by
 have Ch:=Q6D Ae e j;obtain⟨Dx,IT⟩:=Q0b hc;rw [Q6v];unfold Q0C at Ch hc hp Dx ⊢;rw [Q6v];refine Q5k fun d hd=>?_
 have AW:e.q.ks.take (j+1)=e.q.ks.take j++[k]:=by
  rw [J4d,hk];rfl
 have Fs:({d with q:=Q0t e j d}:En Nd)∈mapE (Q0t e j) (rem N e.id):=J2n.2 ⟨d,hd,rfl⟩;by_cases h1:d.id=e.q.par
 ·have h2:d.id≠k:=fun h=>I3 (by rw [<- h,h1])
  have IZ:p={d with q:=Q0t e j d}:=by
   have hx:find (mapE (fun d=>if d.id=k then {c.q with par:=e.q.par} else d.q) (mapE (Q0t e j) (rem N e.id))) d.id=some ({d with q:=Q0t e j d}:En Nd):=by
    rw [Q1u];have:=Q0g Ch Fs;simp only at this;rw [this];simp only [J3V,if_neg h2]
   exact (J3e (hx.symm.trans ((congrArg (find _) h1).trans hp))).symm
  simp only [h1,if_true];rw [IZ];have h3:¬e.q.par=k:=fun h=>I3 h.symm
  unfold Q0t;simp only [h1,if_true,AW,J2V,J4o,h3,or_false,J3h]
 ·simp only [h1,if_false];by_cases h2:d.id=k
  ·simp only [h2,if_true];have EE:c={d with q:=Q0t e j d}:=Q9D Ch Fs h2 hc |>.symm;rw [EE];have h3:¬k=e.q.par:=I3;unfold Q0t;simp only [h2,h3,if_false,AW,J2V,J4o,or_true,if_true]
  ·simp only [h2,if_false];unfold Q0t;simp only [h1,if_false,AW,J2V,J4o,h2,or_false]
theorem Z3s {N:List (En Nd)} (Ae:N.Pairwise (fun a b=>a.id≠b.id)) {e:En Nd} {j:Nat} {k:Int} (hk:e.q.ks[j]?=some k) {c:En Nd} (hc:find (Q0C N e j) k=some c) (Ar:∀d∈N,d.id≠e.q.par) :
  mapE (fun d=>if d.id=k then {c.q with par:=e.q.par} else d.q) (Q0C N e j)=Q0C N e (j+1):=by
 have Ch:=Q6D Ae e j;unfold Q0C at Ch hc ⊢;rw [Q6v];refine Q5k fun d hd=>?_
 have AW:e.q.ks.take (j+1)=e.q.ks.take j++[k]:=by
  rw [J4d,hk];rfl
 have Fs:({d with q:=Q0t e j d}:En Nd)∈mapE (Q0t e j) (rem N e.id):=J2n.2 ⟨d,hd,rfl⟩;have h1:=Ar d (Q7Z hd);by_cases h2:d.id=k
 ·simp only [h2,if_true];have EE:c={d with q:=Q0t e j d}:=Q9D Ch Fs h2 hc |>.symm;rw [EE];have h3:¬k=e.q.par:=h2 ▸ h1;unfold Q0t;simp only [h3,if_false,AW,J2V,J4o,h2,or_true,if_true]
 ·simp only [h2,if_false];unfold Q0t;simp only [h1,if_false,AW,J2V,J4o,h2,or_false]
structure Z3t (q:FO) (e:En Nd) (j:Nat) (F:FO):Prop where
 f:F.f=q.f
 m:F.m=q.m
 o:F.o=q.o
 N:F.N=Q0C q.N e j
 next:F.next=q.next
 rv:∀c∈F.N,rvOk (F.kr c.id) c.q.ks.length
theorem Z8Y {N:List (En Nd)} {next:Int} (ok:NOk N next) {a b:En Nd} (ha:a∈N) (hb:b∈N) (Aa:a.id≠b.id):a.q.ks.length+b.q.ks.length<=N.length:=by
 have AD:(a.q.ks++b.q.ks).Nodup:=by
  rw [J3a];refine⟨ok.nd a ha,ok.nd b hb,fun x hx y hy GE=>?_⟩;subst GE;obtain⟨c,hc,h1⟩:=ok.kids a ha x hx;obtain⟨d,hd,h2⟩:=ok.kids b hb x hy;rw [hc] at hd;cases hd;exact Aa (h1.symm.trans h2)
 have:=J6v AD (l₂:=N.map En.id) (fun k hk=>by
  rcases J2V.1 hk with hk|hk
  ·obtain⟨c,hc,_⟩:=ok.kids a ha k hk;obtain⟨c1,c2⟩:=Q0b hc;exact J2n.2 ⟨c,c1,c2⟩
  ·obtain⟨c,hc,_⟩:=ok.kids b hb k hk;obtain⟨c1,c2⟩:=Q0b hc;exact J2n.2 ⟨c,c1,c2⟩)
 rwa [J2R,J3Q] at this
theorem Z6B {F:FO} {id:Int} {c:En Nd} (Ae:F.N.Pairwise (fun a b=>a.id≠b.id)) (hf:find F.N id=some c) (h:∀c∈F.N,rvOk (F.kr c.id) c.q.ks.length) {n:Nd} {rv:RV} (hn:rvOk rv n.ks.length):∀d∈(F.setN id n rv).N,rvOk ((F.setN id n rv).kr d.id) d.q.ks.length:=fun d hd=>by
 obtain⟨d0,Qx,rfl⟩:=Q1m (show d∈mapE _ F.N from hd);show rvOk (if d0.id=id then rv else F.kr d0.id) (if d0.id=id then n else d0.q).ks.length;split
 ·exact hn
 ·exact h d0 Qx
theorem Q7I {wr:World} {q F:FO} {e:En Nd} {j:Nat} {k:Int} (ok:q.Ok) (he:find q.N e.id=some e) (L:Z3t q e j F) (hs:Sep wr (F.hl++ndH q.kr e)) (hj:e.q.ks[j]?=some k) :
  ∃c,find F.N k=some c/\(wr.cell? ⟨F.f,0,none⟩=some (.map (some F.m))/\wr.cell? ⟨e.b,2,none⟩=some (.int .i64 e.q.par)/\wr.frozen? ⟨c.b,2,none⟩=false/\∃v,wr.cell? ⟨c.b,2,none⟩=some v) /\
   (Instr.lookup 279 (.map (some F.m)) (.int .i64 k) false).run prog wr=.ok (.pointer (some ⟨c.b,0,none⟩)) wr /\
   ((wr.setCell ⟨c.b,2,none⟩ (.int .i64 e.q.par)).cell? ⟨e.b,2,none⟩=some (.int .i64 e.q.par)) /\
   ∀W1,Below (wr.setCell ⟨c.b,2,none⟩ (.int .i64 e.q.par)).heap.size (wr.setCell ⟨c.b,2,none⟩ (.int .i64 e.q.par)) W1 ->
    (find q.N e.q.par=none->Calls prog 162 #[.pointer (some ⟨F.f,0,none⟩),.int .i64 e.q.par] W1 (fun r w'=>r=.returned (.pointer none)/\W1=w') /\
     ∃F',Z3t q e (j+1) F'/\Step (F.hl++ndH q.kr e) (F'.hl++ndH q.kr e) wr W1) /\
    (find q.N e.q.par≠none->∃(pb:Nat) (V:Value),Calls prog 162 #[.pointer (some ⟨F.f,0,none⟩),.int .i64 e.q.par] W1 (fun r w'=>r=.returned (.pointer (some ⟨pb,0,none⟩))/\W1=w')/\W1.cell? ⟨pb,3,none⟩=some V/\(∃a n c,V=.slice a n c) /\
     ∃(V':Value) (w':World),(Builtin.append_ #[36,36] 36 #[V,.slice (some ⟨W1.heap.size,0,none⟩) 1 1]).run prog (W1.alloc (.cells #[.int .i64 k] 3))=.ok V' w'/\(∃a n c,V'=.slice a n c)/\w'.cell? ⟨pb,3,none⟩=some V/\(∀i,w'.frozen? ⟨pb,i,none⟩=false) /\
      ∃F',Z3t q e (j+1) F'/\Step (F.hl++ndH q.kr e) (F'.hl++ndH q.kr e) wr (w'.setCell ⟨pb,3,none⟩ V')):=by
 obtain⟨BS,_⟩:=Q0b he;have UG:k∈e.q.ks:=J4v hj;obtain⟨d,hd,EO⟩:=ok.n.kids e BS k UG;obtain⟨Fs,I8⟩:=Q0b hd;have Kz:=ok.n.rise d Fs;have LP:=ok.n.rise e BS;have UC:k≠e.id:=by omega
 have I3:k≠e.q.par:=by omega
 have G2:F.N.Pairwise (fun a b=>a.id≠b.id):=by rw [L.N];exact Q6D ok.n.ids e j
 have Gf:find F.N k=some {d with q:=Q0t e j d}:=by rw [L.N,Q6E ok.n.ids,if_neg UC,hd];rfl
 generalize hc:({d with q:=Q0t e j d}:En Nd)=c at Gf;obtain⟨Dx,IT⟩:=Q0b Gf;have OB:=hs.left;have Gj:=hs.right;have Bf:Cells wr e.b 287 (e.q.cells (q.kr e.id)):=Gj.cells (by simp [ndH]);obtain⟨R,p1,p2⟩:=FO.split G2 Gf;have A6:=(OB.perm p1).cells (b:=c.b) (T:=287) (cs:=c.q.cells (F.kr k)) (by simp);have AX:=Sep.set (A:=[]) (B:=rowH (F.kr k) 3 1 (c.q.ks.map encI)++R) (OB.perm p1) 2 (.int .i64 e.q.par);have AR:(c.q.cells (F.kr k)).set 2 (.int .i64 e.q.par)=Nd.cells {c.q with par:=e.q.par} (F.kr k):=rfl;rw [AR] at AX;have stF:Step F.hl (F.setN k {c.q with par:=e.q.par} (F.kr k)).hl wr (wr.setCell ⟨c.b,2,none⟩ (.int .i64 e.q.par)):=AX.perm p1.symm (p2 {c.q with par:=e.q.par} (F.kr k) rfl rfl).symm
 have st1:Step (F.hl++ndH q.kr e) ((F.setN k {c.q with par:=e.q.par} (F.kr k)).hl++ndH q.kr e) wr (wr.setCell ⟨c.b,2,none⟩ (.int .i64 e.q.par)):=by
  have:=Step.frame [] (ndH q.kr e) (by simpa using hs) stF
  simpa using this
 have IN:Cells (wr.setCell ⟨c.b,2,none⟩ (.int .i64 e.q.par)) e.b 287 (e.q.cells (q.kr e.id)):=st1.sep.right.cells (by simp [ndH]);refine⟨c,Gf,⟨FO.c0 OB,Bf.cell 2 _ rfl,A6.free 2,_,A6.cell 2 _ rfl⟩,FO.look_some OB Gf,IN.cell 2 _ rfl,fun W1 hW=>?_⟩;have st1':=st1.trans (st1.sep.grown hW);have Jl:Sep W1 (F.setN k {c.q with par:=e.q.par} (F.kr k)).hl:=st1'.sep.left;have CB:(F.setN k {c.q with par:=e.q.par} (F.kr k)).N.Pairwise (fun a b=>a.id≠b.id):=Q2f (fun _ _ h=>h) G2;have Nq:=L.rv c Dx;rw [IT] at Nq;have KS:=Z6B G2 Gf L.rv (n:={c.q with par:=e.q.par}) (rv:=F.kr k) Nq
 have Wn:∀i,(F.setN k {c.q with par:=e.q.par} (F.kr k)).kr i=F.kr i:=fun i=>by
  show (if i=k then F.kr k else F.kr i)=F.kr i;split
  ·rename_i h;rw [h]
  ·rfl
 have find1:∀id,find (F.setN k {c.q with par:=e.q.par} (F.kr k)).N id=(find F.N id).map fun d=>{d with q:=if d.id=k then {c.q with par:=e.q.par} else d.q}:=fun id=>Q1u _ _ _
 refine⟨fun Ar=>?_,fun IY=>?_⟩
 ·have UW:find (F.setN k {c.q with par:=e.q.par} (F.kr k)).N e.q.par=none:=by
   rw [find1,L.N,Q6E ok.n.ids,Ar];split <;> rfl
  refine⟨Q4Q Jl UW,F.setN k {c.q with par:=e.q.par} (F.kr k),⟨L.f,L.m,L.o,?_,L.next,KS⟩,st1'⟩;show mapE _ F.N=_;rw [L.N];exact Z3s ok.n.ids hj (by rw [<- L.N];exact Gf) fun d hd h=>by
   have:=Q0g ok.n.ids hd;rw [h,Ar] at this;cases this
 ·obtain⟨p0,ET⟩:=Option.ne_none_iff_exists'.1 IY;obtain⟨PJ,NB⟩:=Q0b ET;have IZ:e.q.par≠e.id:=by omega
  have GW:find (F.setN k {c.q with par:=e.q.par} (F.kr k)).N e.q.par=some {p0 with q:=Q0t e j p0}:=by
   rw [find1,L.N,Q6E ok.n.ids,if_neg IZ,ET];simp only [J3V,J2v];rw [NB,if_neg (fun h=>I3 h.symm)]
  generalize hp:({p0 with q:=Q0t e j p0}:En Nd)=p at GW;obtain⟨BQ,Gb⟩:=Q0b GW;have ME:=KS p BQ;rw [Gb] at ME;have C4:=Z8Y ok.n PJ BS (by omega);have C8:=ok.few;have Ac:p.q.ks.length<=65536:=by
   rw [<- hp];show (Q0t e j p0).ks.length<=_;unfold Q0t;simp only;split
   ·rw [J2R,J4A];have:=J4w (fun k=>decide (k≠e.id)) p0.q.ks;omega
   ·omega
  obtain⟨rv',w',r5,C7,k3,kf,st5⟩:=FO.pushK Jl CB GW ME Ac k 36;have c3:=(FO.nd Jl GW).cell 3 (lvOf ((F.setN k {c.q with par:=e.q.par} (F.kr k)).kr p.id) p.q.ks.length) rfl;rw [Gb] at c3;have lvs:∀(rv:RV) (n:Nat),∃a n' c,lvOf rv n=.slice a n' c:=fun rv n=>by
   cases rv with
   | none=>exact⟨_,_,_,rfl⟩
   | some p=>exact⟨_,_,_,rfl⟩
  refine⟨p.b,_,Q2U Jl GW,c3,lvs _ _,_,w',r5,?_,k3,kf,(F.setN k {c.q with par:=e.q.par} (F.kr k)).setN e.q.par {p.q with ks:=p.q.ks++[k]} rv',⟨L.f,L.m,L.o,?_,L.next,?_⟩,?_⟩
  ·cases rv' with
   | none=>exact⟨_,_,_,rfl⟩
   | some p=>exact⟨_,_,_,rfl⟩
  ·show mapE _ (mapE _ F.N)=_;have hx:=Z6A ok.n.ids (e:=e) (j:=j) (k:=k) hj (ok.n.nd e BS) (c:=c) (p:=p) (by rw [<- L.N];exact Gf) I3 (by rw [<- L.N];exact GW);rw [L.N];exact hx
  ·exact Z6B CB GW KS (n:={p.q with ks:=p.q.ks++[k]}) (by rw [J2R,J6i];exact C7)
  ·have:=Step.frame [] (ndH q.kr e) (by simpa using st1'.sep) st5;exact st1'.trans (by simpa using this)
theorem Q4T (x id:Int) (b:Nat) (w:World) (h:w.cell? ⟨b,0,none⟩=some (.int .i64 id)) :
  Calls prog 268 #[.int .i64 x,.pointer (some ⟨b,0,none⟩)] w fun e w'=>e=.returned (.bool (x==id))/\w=w':=by
 go_enter func268,ntmps268
 go_wp2
 go_ret;exact⟨rfl,rfl⟩
def J1C (xs:List Int) (id:Int) (e:Ending):Prop:=
 (∃k:Nat,k<xs.length/\e=.returned (.int .i64 k)/\xs[k]?.getD 0=id/\∀j,j<k->xs[j]?.getD 0≠id)∨(e=.returned (.int .i64 (-1))/\∀j,j<xs.length->xs[j]?.getD 0≠id)
def Z6C (b:Nat):Value:=.func (.func 268) #[] #[.pointer (some ⟨b,0,none⟩)]
theorem Z0V (xs:List Int) (id:Int) (b g cap:Nat) (w:World) (h:w.cell? ⟨b,0,none⟩=some (.int .i64 id)) (hm:xs.length<=4611686018427387904)
  (hc:∀k,k<xs.length->w.cell? ⟨g,k,none⟩=some (.int .i64 (xs[k]?.getD 0))) :
  Calls prog 295 #[.slice (some ⟨g,0,none⟩) xs.length cap,Z6C b] w fun e w'=>J1C xs id e/\w=w':=by
 unfold Z6C;go_enter func295,ntmps295;go_wp2_with fail
 go_loop [5,8] (fun _ i=>∃k:Nat,k<=xs.length/\i=.int .i64 k/\∀j,j<k->xs[j]?.getD 0≠id) (fun _ i=>xs.length-(intOf i).toNat)
 case atStart=>exact⟨0,J4j _,rfl,by intro j hj;omega⟩
 case round =>
  obtain⟨k,hk,rfl,A3⟩:=hrel;have Hp:Hid (∀j,j<k->xs[j]?.getD 0≠id):=A3;clear A3;by_cases Ab:k<xs.length
  ·have Eb:=hc k Ab;have hh:=h;clear hc h;generalize hx:xs[k]?.getD 0=x at Eb;have Hx:Hid (xs[k]?.getD 0=x):=hx;clear hx;by_cases hx:x=id
   ·have hb:(x==id)=true:=by simpa using hx
    have PQ:Hid (x=id):=hx;clear hx;go_wp2_with (go_at_call 268;refine (Q4T _ id b _ hh).mono ?_;rintro e w' ⟨rfl,rfl⟩);go_ret;exact⟨.inl ⟨k,Ab,rfl,Hx.out.trans PQ.out,Hp.out⟩,rfl⟩
   ·have hb:(x==id)=false:=by simpa using hx
    have PQ:Hid (x≠id):=hx;clear hx;go_wp2_with (go_at_call 268;refine (Q4T _ id b _ hh).mono ?_;rintro e w' ⟨rfl,rfl⟩)
    go_round
    case rel =>
     refine⟨k+1,by omega,by go_num,fun j hj=>?_⟩;by_cases e:j=k
     ·subst e;rw [Hx.out];exact PQ.out
     ·exact Hp.out j (by omega)
    case measure=>simp [intOf];omega
  ·clear hc;go_wp2_with fail;go_ret;exact⟨.inr ⟨rfl,fun j hj=>Hp.out j (by omega)⟩,rfl⟩
def fltK (xs:List Int) (id:Int):List Int:=xs.filter fun x=>x != id
theorem Q9E {xs:List Int} {id:Int} (h:∀j,j<xs.length->xs[j]?.getD 0≠id):fltK xs id=xs:=by
 unfold fltK;rw [J6o];intro x hx;obtain⟨j,hj,rfl⟩:=List.getElem_of_mem hx;have:=h j hj
 simpa [hj] using this
theorem Q4d (xs:List Int) (id:Int) (j:Nat) (hj:j<xs.length) :
  fltK (xs.take (j+1)) id=if xs[j]?.getD 0=id then fltK (xs.take j) id else fltK (xs.take j) id++[xs[j]?.getD 0]:=by
 rw [J6w hj];unfold fltK;rw [J4e];by_cases h:xs[j]=id <;> simp [h,hj]
def Z8Z (w:World) (g cap:Nat) (ys:List Int) (e:Ending) (w':World):Prop:=
 e=.returned (.slice (some ⟨g,0,none⟩) ys.length cap)/\(∃cs,Cells w' g 3 cs/\cs.length=cap/\cs.take ys.length=ys.map (Value.int .i64))/\w.grownBy w' (some g)
def Z6D (xs:List Int) (id:Int) (g cap:Nat) (w:World) (k0:Nat) (iv jv:Value) (wr:World):Prop:=
 ∃j cs,jv=.int .i64 (j:Nat)/\iv=.int .i64 ((fltK (xs.take j) id).length:Nat)/\k0<j/\j<=xs.length/\(fltK (xs.take j) id).length<j/\Cells wr g 3 cs/\cs.length=cap /\
  cs.take (fltK (xs.take j) id).length=(fltK (xs.take j) id).map (Value.int .i64)/\(∀m,j<=m->m<xs.length->cs[m]?=some (.int .i64 (xs[m]?.getD 0)))/\w.grownBy wr (some g)
theorem J1D (w:World):(zeroValue 3).run prog w=.ok (.int .i64 0) w:=by kernel_rfl
theorem Q9F (xs:List Int) (id:Int) (b g cap:Nat) (w:World) (cs0:List Value) (h:w.cell? ⟨b,0,none⟩=some (.int .i64 id)) (Aa:b≠g) (hc:Cells w g 3 cs0) (AM:xs.length<=cap) (AR:cs0.length=cap)
  (Dj:cs0.take xs.length=xs.map (Value.int .i64)) (hm:xs.length<=1048576) :
  Calls prog 267 #[.slice (some ⟨g,0,none⟩) xs.length cap,Z6C b] w (Z8Z w g cap (fltK xs id)):=by
 have Ah:∀k,k<xs.length->cs0[k]?=some (.int .i64 (xs[k]?.getD 0)):=by
  intro k hk;have h1:(cs0.take xs.length)[k]?=(xs.map (Value.int .i64))[k]?:=by rw [Dj]
  rw [J4k,if_pos hk] at h1;rw [h1];simp [hk]
 have Jg:=Z0V xs id b g cap w h (by omega) (fun k hk=>hc.cell k _ (Ah k hk));unfold Z6C at Jg ⊢;go_enter func267,ntmps267;go_wp2_with fail;refine Jg.mono ?_;rintro e w' ⟨⟨k,hk,rfl,I9,A3⟩|⟨rfl,AU⟩,rfl⟩
 case inr =>
  have KY:=Q9E AU
  go_wp2
  go_ret;rw [KY];exact⟨rfl,⟨cs0,hc,AR,Dj⟩,⟨rfl,rfl,rfl,J2h _,fun _ _ _=>rfl⟩⟩
 case inl =>
  have S9:fltK (xs.take k) id=xs.take k:=Q9E (by
   intro j hj;have LB:j<k:=by simp at hj;omega
   have:=A3 j LB
   simpa [J4k,LB] using this)
  have Jp:fltK (xs.take (k+1)) id=xs.take k:=by rw [Q4d xs id k hk,if_pos I9,S9]
  have Et:Hid (Z6D xs id g cap w k (.int .i64 k) (.int .i64 ((k:Int)+1)) w):=by
   refine⟨k+1,cs0,by go_num,?_,by omega,by omega,?_,hc,AR,?_,fun m _ hm=>Ah m hm,⟨rfl,rfl,rfl,J2h _,fun _ _ _=>rfl⟩⟩
   ·rw [Jp];simp;omega
   ·rw [Jp];simp;omega
   ·rw [Jp];have h1:=congrArg (List.take k) Dj;rw [J4C,<- List.map_take] at h1;have e1:(List.take k xs).length=k:=by simp;omega
    rw [e1,<- h1];congr 1;omega
  have Ll:((k:Int) == -1)=false:=by simp
  clear Ah Jg S9 Jp I9 A3 hc Dj AR;go_wp2_with fail
  go_loopw [5,6] (fun iv jv wr=>Z6D xs id g cap w k iv jv wr) (fun _ jv _=>xs.length-(intOf jv).toNat)
  case atStart=>exact Et.out
  case round =>
   clear Et;obtain⟨j,cs,rfl,rfl,O9,hj,G1,hc,AR,A3,JU,hg⟩:=hrel;generalize hi:(fltK (List.take j xs) id).length=i at G1 A3;have Hi:Hid ((fltK (List.take j xs) id).length=i):=hi;clear hi;have Bz:wr.cell? ⟨b,0,none⟩=some (.int .i64 id):=hg.cell h (by simpa using Aa);have Ke:Hid (List.take i cs=List.map (Value.int IntKind.i64) (fltK (List.take j xs) id)):=A3;have GS:Hid (∀(m:Nat),j<=m->m<xs.length->cs[m]?=some (Value.int IntKind.i64 (xs[m]?.getD 0))):=JU;have LA:Hid (cs.length=cap):=AR;clear A3 JU h AR;by_cases Ab:j<xs.length
   ·have VO:=hc.cell j _ (GS.out j (J2h _) Ab);have JI:=hc.cell i (cs[i]?.getD undef) (by have:=LA.out;rw [J4y (by omega)];rfl);generalize hu:cs[i]?.getD undef=u at JI;clear hu;have Xf:=hc.free i;generalize hx:xs[j]?.getD 0=x at VO;have Hx:Hid (xs[j]?.getD 0=x):=hx;clear hx;have BB:Hid (Cells wr g 3 cs):=hc;clear hc;have KQ:=Q4d xs id j Ab;by_cases hx:x=id
    ·have Hf:Hid (fltK (List.take (j+1) xs) id=fltK (List.take j xs) id):=by rw [KQ,if_pos (Hx.out.trans hx)];exact rfl
     have BY:(x==id)=true:=by simpa using hx
     clear hx KQ;go_wp2_with (go_at_call 268;refine (Q4T _ id b _ Bz).mono ?_;rintro e w' ⟨rfl,rfl⟩);go_roundw
     case rel =>
      refine⟨j+1,cs,by go_num,?_,by omega,by omega,?_,BB.out,LA.out,?_,fun m D2 De=>GS.out m (by omega) De,hg⟩
      ·rw [Hf.out,Hi.out]
      ·rw [Hf.out,Hi.out];omega
      ·rw [Hf.out,Hi.out];exact Ke.out
     case measure=>simp [intOf];omega
    ·have Hf:Hid (fltK (List.take (j+1) xs) id=fltK (List.take j xs) id++[x]):=by rw [KQ,if_neg (by rw [Hx.out];exact hx),Hx.out];exact rfl
     have BY:(x==id)=false:=by simpa using hx
     clear hx KQ;go_wp2_with (go_at_call 268;refine (Q4T _ id b _ Bz).mono ?_;rintro e w' ⟨rfl,rfl⟩);go_roundw
     case rel =>
      refine⟨j+1,cs.set i (.int .i64 x),by go_num,?_,by omega,by omega,?_,BB.out.set _ _,by simpa using LA.out,?_,fun m D2 De=>?_,?_⟩
      ·rw [Hf.out];simp [Hi.out]
      ·rw [Hf.out];simp [Hi.out];omega
      ·rw [Hf.out];have e1:(fltK (List.take j xs) id++[x]).length=i+1:=by simp [Hi.out]
       have C1:i<cs.length:=by have:=LA.out;omega
       rw [e1,J6w (by simpa using C1),J3i (J2h _),Ke.out];simp
      ·rw [J5O (by omega)];exact GS.out m (by omega) De
      ·exact⟨hg.os,hg.tape,hg.output,by simpa using hg.size,fun q hq hqn=>(Below.heap_setCell _ _ _ _ (fun e=>hqn (by simp [e]))).trans (hg.block q hq hqn)⟩
     case measure=>simp [intOf];omega
   ·obtain rfl:j=xs.length:=by omega
    have SV:i<cap:=by omega
    have JI:((cap:Int)==i)=false:=by simp;omega
    have JC:¬(cap=i):=by omega
    have BB:Hid (Cells wr g 3 cs):=hc;clear hc;go_wp2_with (refine Q4t _ rfl (.tmp 38) 36 3 rfl underlying36 (.int .i64 0) J1D rfl rfl g i (xs.length-i) (cap-i) rfl (by omega) 3 cs BB.out (by have:=LA.out;omega) ?_;intro w2 B6 B8);go_ret;have C9:List.take xs.length xs=xs:=J4f (J2h _);have Pd:=Hi.out;have J5:=Ke.out;have Vt:=LA.out;rw [C9] at Pd J5;refine⟨by rw [Pd];rfl,⟨_,B6,?_,?_⟩,?_⟩
    ·simp;omega
    ·rw [Pd,J3h,J4B (by simp;omega),J4C,Nat.min_self,J5]
    ·exact⟨B8.os.trans hg.os,B8.tape.trans hg.tape,B8.output.trans hg.output,J2i hg.size B8.size,fun q hq hqn=>(B8.block q (J2j hq hg.size) hqn).trans (hg.block q hq hqn)⟩
theorem Step.aside {H H':HL} {w w1 w2:World} (st:Step H H' w w1) {F:Nat->Prop} (hc:Chg F w1 w2) (hF:∀b,F b->w.heap.size<=b/\b∉keys H') (Cs:GB<=w.heap.size):Step H H' w w2:=
 ⟨st.sep.chg hc (fun b hb hf=>(hF b hf).2 hb) (fun b hf=>J2i Cs (hF b hf).1),st.chg.trans hc (fun i hi=>.inr (hF i hi).1),st.new⟩
theorem Step.set_aside {H H':HL} {w w1:World} (st:Step H H' w w1) {b:Nat} (hb:w.heap.size<=b) (hk:b∉keys H') (Cs:GB<=w.heap.size) (i:Nat) (v:Value):Step H H' w (w1.setCell ⟨b,i,none⟩ v):=
 st.aside (F:=fun k=>k=b) ((Chg.refl _ _).set _ _ (.inl rfl)) (fun k BC=>by subst BC;exact⟨hb,hk⟩) Cs
def FO.dropped (q:FO) (e:En Nd):FO:={q with N:=Q0C q.N e 0}
theorem FO.cutRow {w:World} {q:FO} (h:Sep w q.hl) (ok:q.Ok) {e p:En Nd} (he:find q.N e.id=some e) (hp:find q.N e.q.par=some p) {b:Nat} (hb:w.cell? ⟨b,0,none⟩=some (.int .i64 e.id)) (AE:b∉keys q.hl) (FC:b<w.heap.size) :
  ∃g cap:Nat,q.kr e.q.par=some (g,cap)/\Calls prog 267 #[.slice (some ⟨g,0,none⟩) p.q.ks.length cap,Z6C b] w fun r w'=>r=.returned (.slice (some ⟨g,0,none⟩) (cutK p.q e.id).ks.length cap) /\
   (w'.cell? ⟨b,0,none⟩=some (.int .i64 e.id))/\w'.frozen? ⟨p.b,3,none⟩=false/\(∃v,w'.cell? ⟨p.b,3,none⟩=some v) /\
   Step q.hl (q.setN e.q.par (cutK p.q e.id) (some (g,cap))).hl w (w'.setCell ⟨p.b,3,none⟩ (.slice (some ⟨g,0,none⟩) (cutK p.q e.id).ks.length cap)):=by
 obtain⟨BS,_⟩:=Q0b he;obtain⟨BQ,Gb⟩:=Q0b hp;have Ce:e.id∈p.q.ks:=by
  obtain⟨p',BI,hk⟩:=(ok.n.par e BS).2 (by have:=ok.n.rng p BQ;omega);rw [hp] at BI;cases BI;exact hk
 have AQ:=ok.rv p BQ;rw [Gb] at AQ;obtain⟨R,p1,p2⟩:=FO.split ok.n.ids hp;cases Dd:q.kr e.q.par with
 | none =>
  rw [Dd] at AQ;have:p.q.ks.length=0:=AQ;rw [J4g] at this;rw [this] at Ce;cases Ce
 | some gc =>
  obtain⟨g,cap⟩:=gc;rw [Dd] at AQ p1;obtain⟨AM,IX⟩:p.q.ks.length<=cap/\cap<=maxLen:=AQ;refine⟨g,cap,rfl,?_⟩;have pm:∀(Z:HL) (a:Nat×(Obj->Prop)),((a::Z)++R).Perm (Z++(a::R)):=fun Z a=>J5L.symm
  have h':Sep w (rowH (some (g,cap)) 3 1 (p.q.ks.map encI)++((p.b,isC 287 (p.q.cells (some (g,cap))))::R)):=h.perm (p1.trans (pm _ _));obtain⟨ds,Gv,EK,R7⟩:=h'.left.row (b:=g) (T:=3) (n:=cap*1) (cs:=p.q.ks.map encI) (by simp [rowH]);rw [J3n] at EK;rw [J3Q] at R7;have EX:g∈keys q.hl:=by
   have:g∈keys (rowH (some (g,cap)) 3 1 (p.q.ks.map encI)++((p.b,isC 287 (p.q.cells (some (g,cap))))::R)):=by simp [rowH,keys]
   exact ((p1.trans (pm _ _)).map Prod.fst).mem_iff.2 this
  have T8:b≠g:=fun x=>AE (x ▸ EX)
  have C8:=ok.n.kids_few BQ;have Hc:=ok.few;have Qr:fltK p.q.ks e.id=(cutK p.q e.id).ks:=by
   unfold fltK cutK;exact J4X fun x _=>by by_cases hx:x=e.id <;> simp [hx]
  refine (Q9F p.q.ks e.id b g cap w ds hb T8 Gv AM EK (by rw [R7]) (by omega)).mono ?_;rintro r w' ⟨hr,⟨cs,BB,AR,Ob⟩,hg⟩;rw [Qr] at hr Ob;have s1:=Sep.turn (A:=[]) (B:=(p.b,isC 287 (p.q.cells (some (g,cap))))::R) (q':=isR 3 (cap*1) ((cutK p.q e.id).ks.map encI)) h' hg ⟨_,BB,cs.toArray,rfl,by simpa using AR,by
   rw [J3Q]
   simpa using Ob⟩
  have hc:=s1.sep.cells (b:=p.b) (T:=287) (cs:=p.q.cells (some (g,cap))) (by simp);have s2:=Sep.set (A:=[(g,isR 3 (cap*1) ((cutK p.q e.id).ks.map encI))]) (B:=R) s1.sep 3 (.slice (some ⟨g,0,none⟩) (cutK p.q e.id).ks.length cap);have PW:(p.q.cells (some (g,cap))).set 3 (.slice (some ⟨g,0,none⟩) (cutK p.q e.id).ks.length cap)=(cutK p.q e.id).cells (some (g,cap)):=rfl;rw [PW] at s2;refine⟨hr,hg.cell hb (by simpa using T8),hc.free 3,⟨_,hc.cell 3 _ rfl⟩,(s1.trans s2).perm ((p1.trans (pm _ _)).symm) ?_⟩;exact ((p2 (cutK p.q e.id) (some (g,cap)) rfl rfl).trans (pm _ _)).symm
def Z9a (q:FO) (e:En Nd) (w w':World):Prop:=Step q.hl ((q.dropped e).hl++ndH q.kr e) w w'
theorem Z9b {q:FO} (ok:q.Ok) {e p:En Nd} (hp:find q.N e.q.par=some p) {rv:RV} (Dd:q.kr e.q.par=rv):(q.setN e.q.par (cutK p.q e.id) rv).cut e.id=q.dropped e/\(q.setN e.q.par (cutK p.q e.id) rv).kr=q.kr:=by
 have hk:(fun j=>if j=e.q.par then rv else q.kr j)=q.kr:=by
  funext j;split
  ·rename_i h;rw [h];exact Dd.symm
  ·rfl
 refine⟨?_,hk⟩;unfold FO.cut FO.setN FO.dropped;simp only [hk];rw [Z8X ok.n.ids hp]
theorem Z6E {q:FO} {e:En Nd} (he:find q.N e.id=some e) (Aa:e.id≠e.q.par) (n:Nd) (rv:RV):find (q.setN e.q.par n rv).N e.id=some e:=by
 show find (mapE _ q.N) e.id=_;rw [Q1u,he];simp only [J3V,if_neg Aa]
def Q0D (w:World) (id:Int):World:=(w.alloc (.cells #[.int .i64 id] 3)).alloc (.cells #[.int .i64 0,.int .i64 0] 46)
theorem Q2W (w:World) (id:Int):Below w.heap.size w (Q0D w id):=((Below.refl _ _).alloc (J2h _) _).alloc (by simp) _
structure J0M (q q1:FO) (e:En Nd) (w w3:World):Prop where
 c0:w3.cell? ⟨q.f,0,none⟩=some (.map (some q.m))
 c1:w3.cell? ⟨q.f,1,none⟩=some (.map (some q.o))
 b0:w3.cell? ⟨w.heap.size,0,none⟩=some (.int .i64 e.id)
 del:∃w5,(Builtin.delete_ #[279,3] 0 #[.map (some q.m),.int .i64 e.id]).run prog w3.drew=.ok (.tuple #[]) w5/\(w5.cell? ⟨q.f,1,none⟩=some (.map (some q.o))/\w5.cell? ⟨e.b,0,none⟩=some (.int .i64 e.q.sp)/\w5.cell? ⟨e.b,1,none⟩=some (.int .i64 e.q.sl)) /\
  ∃w7,(Builtin.delete_ #[280,46] 0 #[.map (some q.o),.agg #[.int .i64 e.q.sp,.int .i64 e.q.sl]]).run prog w5.drew=.ok (.tuple #[]) w7/\(w7.cell? ⟨e.b,0,none⟩=some (.int .i64 e.q.sp)/\w7.cell? ⟨e.b,1,none⟩=some (.int .i64 e.q.sl))/\Cells w7 (w.heap.size+1) 46 [.int .i64 0,.int .i64 0] /\
   ∀u v,Z9a q e w ((w7.setCell ⟨w.heap.size+1,0,none⟩ u).setCell ⟨w.heap.size+1,1,none⟩ v)
theorem Q9G {w w2 w3:World} {q q1:FO} {e:En Nd} (h:Sep w q.hl) (ok:q.Ok) (Af:Below (Q0D w e.id).heap.size (Q0D w e.id) w2) (st:Step q.hl q1.hl w w3) (FM:find q1.N e.id=some e) (Ae:q1.N.Pairwise (fun a b=>a.id≠b.id)) (hs:q1.N.Pairwise (fun a b=>(a.q.sp,a.q.sl)≠(b.q.sp,b.q.sl))) (hn:∀e∈q1.N,0<=e.q.sp/\e.q.sp<4294967296/\0<=e.q.sl/\e.q.sl<256)
  (e1:q1.cut e.id=q.dropped e) (e2:q1.kr=q.kr) (f1:q1.f=q.f) (f2:q1.m=q.m) (f3:q1.o=q.o) (Bz:w3.cell? ⟨w.heap.size,0,none⟩=some (.int .i64 e.id)) (Aj:Cells w3 (w.heap.size+1) 46 [.int .i64 0,.int .i64 0]) (E6:∀b∈keys q1.hl,b∈keys q.hl):J0M q q1 e w w3:=by
 have Cs:GB<=w.heap.size:=h.env.gb;have AB:=st.sep;obtain⟨w5,r5,s5,BK⟩:=FO.delSteps AB.drew Ae hs hn FM 3 0 46 0;obtain⟨w7,r7,s7⟩:=BK w5.drew (Below.refl _ _).drew;rw [f2] at r5;rw [f3] at r7;have nd5:Cells w5 e.b 287 (e.q.cells (q1.kr e.id)):=by
  obtain⟨A,B,hN,_,_⟩:=Q3b Ae FM;exact s5.sep.cells (by rw [hN];simp [ndH])
 have nd7:Cells w7 e.b 287 (e.q.cells (q1.kr e.id)):=s7.sep.right.cells (by simp [ndH]);have st7:Step q.hl ((q1.cut e.id).hl++ndH q1.kr e) w w7:=st.trans s7.from_drew;rw [e1,e2] at st7;have c1:=FO.c1 AB;have J3:w5.cell? ⟨q1.f,1,none⟩=some (.map (some q1.o)):=(s5.sep.cells (b:=q1.f) (T:=282) (cs:=[.map (some q1.m),.map (some q1.o),.int .i64 q1.next]) (by simp [FO.head])).cell 1 _ rfl;rw [f1,f3] at J3;have Oy:=FO.c0 AB;rw [f1,f2] at Oy;rw [f1,f3] at c1;refine⟨Oy,c1,Bz,w5,r5,⟨J3,nd5.cell 0 _ rfl,nd5.cell 1 _ rfl⟩,w7,r7,⟨nd7.cell 0 _ rfl,nd7.cell 1 _ rfl⟩,Aj.same (s7.from_drew.chg.block _ Aj.lt fun hk=>by have:=h.lt (E6 _ hk);omega),fun u v=>?_⟩
 have Fv:w.heap.size+1∉keys ((q.dropped e).hl++ndH q.kr e):=fun hk=>by
  rw [<- e1,<- e2] at hk;have h1:=((FO.cut_perm Ae FM).map Prod.fst).mem_iff.2 hk;have h2:w.heap.size+1∈keys q1.hl:=by
   simpa [FO.hl,keys] using h1
  have:=h.lt (E6 _ h2);omega
 exact (st7.set_aside (J6x _) Fv Cs 0 u).set_aside (J6x _) Fv Cs 1 v
theorem Z6F {q:FO} (Ae:q.N.Pairwise (fun a b=>a.id≠b.id)) {id:Int} {c:En Nd} (hf:find q.N id=some c) {n:Nd} {g cap:Nat} (Dd:q.kr id=some (g,cap)) (h1:n.sp=c.q.sp) (h2:n.sl=c.q.sl):∀b∈keys (q.setN id n (some (g,cap))).hl,b∈keys q.hl:=fun b hb=>by
 obtain⟨R,p1,p2⟩:=FO.split Ae hf;rw [Dd] at p1;have k1:=((p2 n (some (g,cap)) h1 h2).map Prod.fst).mem_iff.1 hb;exact (p1.map Prod.fst).mem_iff.2 (by simpa [rowH] using k1)
theorem Z3u {w:World} {q:FO} (h:Sep w q.hl) (ok:q.Ok) {e p:En Nd} (he:find q.N e.id=some e) (hp:find q.N e.q.par=some p) :
  ∃g cap:Nat,∀w2,Below (Q0D w e.id).heap.size (Q0D w e.id) w2->w2.cell? ⟨e.b,2,none⟩=some (.int .i64 e.q.par) /\
   Calls prog 162 #[.pointer (some ⟨q.f,0,none⟩),.int .i64 e.q.par] w2 (fun r w'=>r=.returned (.pointer (some ⟨p.b,0,none⟩))/\w2=w')/\w2.cell? ⟨p.b,3,none⟩=some (.slice (some ⟨g,0,none⟩) p.q.ks.length cap) /\
   Calls prog 267 #[.slice (some ⟨g,0,none⟩) p.q.ks.length cap,.func (.func 268) #[] #[.pointer (some ⟨w.heap.size,0,none⟩)]] w2 fun r w3=>r=.returned (.slice (some ⟨g,0,none⟩) (cutK p.q e.id).ks.length cap)/\w3.frozen? ⟨p.b,3,none⟩=false/\(∃v,w3.cell? ⟨p.b,3,none⟩=some v) /\
    ∃q1,J0M q q1 e w (w3.setCell ⟨p.b,3,none⟩ (.slice (some ⟨g,0,none⟩) (cutK p.q e.id).ks.length cap)):=by
 obtain⟨BS,_⟩:=Q0b he;obtain⟨BQ,Gb⟩:=Q0b hp;have Aa:e.id≠e.q.par:=by have:=ok.n.rise e BS;omega
 have hB:=Q2W w e.id;have Fe:Cells (Q0D w e.id) w.heap.size 3 [.int .i64 e.id]:=(Cells.new w 3 [.int .i64 e.id]).alloc (.cells #[.int .i64 0,.int .i64 0] 46);have B7:(Q0D w e.id).heap.size=w.heap.size+2:=by simp [Q0D]
 have facts:∀w2,Below (Q0D w e.id).heap.size (Q0D w e.id) w2->Below w.heap.size w w2/\w2.cell? ⟨w.heap.size,0,none⟩=some (.int .i64 e.id)/\w.heap.size+2<=w2.heap.size:=fun w2 hb=>⟨hB.trans (hb.mono (by omega)),(Fe.same (hb.block _ (by omega))).cell 0 _ rfl,by have:=hb.size;omega⟩
 have Fv:w.heap.size∉keys q.hl:=fun hk=>by have:=h.lt hk;omega
 obtain⟨g,cap,Dd,_⟩:=FO.cutRow (w:=Q0D w e.id) (h.grown hB).sep ok he hp (b:=w.heap.size) (Fe.cell 0 _ rfl) Fv (by omega);refine⟨g,cap,fun w2 hb=>?_⟩;obtain⟨Al,Bz,Hs⟩:=facts w2 hb;have s2:=(h.grown Al).sep;have c3:=(FO.nd0 s2 hp).2.2.2;rw [Gb,Dd] at c3;refine⟨(FO.nd0 s2 he).2.2.1,Q2U s2 hp,c3,?_⟩;obtain⟨g',BH,MC,Bl⟩:=FO.cutRow s2 ok he hp Bz Fv (by omega);rw [Dd] at MC;cases MC;refine Bl.mono ?_;rintro r w3 ⟨rfl,As,CJ,Cu,st⟩;obtain⟨e1,e2⟩:=Z9b ok (e:=e) hp Dd;refine⟨rfl,CJ,Cu,q.setN e.q.par (cutK p.q e.id) (some (g,cap)),?_⟩;refine Q9G h ok hb ((h.grown Al).trans st) (Z6E he Aa _ _) (Q2f (fun _ _ h=>h) ok.n.ids) ?_ ?_ e1 e2 rfl rfl rfl ?_ ?_ (Z6F ok.n.ids hp Dd rfl rfl)
 ·show (mapE _ q.N).Pairwise _;unfold mapE;refine J2M.2 (J5Q ?_ ok.n.spots);intro a b ha hb Dh;have sp:∀c∈q.N,(if c.id=e.q.par then cutK p.q e.id else c.q).sp=c.q.sp/\(if c.id=e.q.par then cutK p.q e.id else c.q).sl=c.q.sl:=fun c hc=>by
   split
   ·rename_i GX;rw [Q9D ok.n.ids hc GX hp];exact⟨rfl,rfl⟩
   ·exact⟨rfl,rfl⟩
  simp only [(sp a ha).1,(sp a ha).2,(sp b hb).1,(sp b hb).2];exact Dh
 ·intro d hd;obtain⟨c,hc,rfl⟩:=Q1m (show d∈mapE _ q.N from hd);have:=ok.n.sm c hc;simp only;split
  ·rename_i GX;rw [Q9D ok.n.ids hc GX hp] at this;exact this
  ·exact this
 ·have Aa:w.heap.size≠p.b:=fun hx=>Fv (by
   have:p.b∈keys q.hl:=by
    obtain⟨A,B,hN,_,_⟩:=Q3b ok.n.ids hp;simp only [FO.hl,keys,J2k,List.map_flatMap];refine J6y _ (J6y _ (J6y _ (J2H.2 ⟨p,BQ,?_⟩)));simp [ndH]
   rw [hx];exact this)
  exact (World.cell?_of_block (Below.heap_setCell _ _ _ _ (by simpa using Aa))).trans As
 ·have B3:Cells (Q0D w e.id) (w.heap.size+1) 46 [.int .i64 0,.int .i64 0]:=by
   have:=Cells.new (w.alloc (.cells #[.int .i64 e.id] 3)) 46 [.int .i64 0,.int .i64 0];rw [show (w.alloc (.cells #[.int .i64 e.id] 3)).heap.size=w.heap.size+1 by simp] at this;exact this
  have Mt:=B3.same (hb.block _ (by omega));exact Mt.same (st.chg.block _ Mt.lt fun hk=>by have:=h.lt hk;omega)
theorem Z6G {w:World} {q:FO} (h:Sep w q.hl) (ok:q.Ok) {e p:En Nd} (he:find q.N e.id=some e) (hp:find q.N e.q.par=some p) :
  Calls prog 235 #[.pointer (some ⟨q.f,0,none⟩),.int .i64 e.id] w fun r w'=>(∃v,r=.returned v)/\Z9a q e w w':=by
 have hb:=Q2W w e.id;have Fe:=(Cells.new w 3 [.int .i64 e.id]).alloc (.cells #[.int .i64 0,.int .i64 0] 46);have b0:=Fe.cell 0 _ rfl;have FT:=(h.grown hb).sep;have c0:=FO.c0 FT;have hl:=FO.look_some FT he;have Sv:(Q0D w e.id).drew.cell? ⟨q.f,0,none⟩=some (.map (some q.m)):=c0;have b0d:(Q0D w e.id).drew.cell? ⟨w.heap.size,0,none⟩=some (.int .i64 e.id):=b0;have QS:=FO.look_some FT.drew he;obtain⟨g,cap,EN⟩:=Z3u h ok he hp;obtain⟨k2,FN,k3,MX⟩:=EN _ (Below.refl _ _).drew;have Hg:=Q0a MX;unfold Q0D at *
 clear h ok he hp hb FT Fe EN MX;go_enter func235,ntmps235;go_wp2_with fail;go_region;go_wp2_with fail;refine FN.mono ?_;rintro r w' ⟨rfl,rfl⟩;go_wp2_with fail;refine Hg.out.mono ?_;rintro r w3 ⟨rfl,CJ,⟨v,Cu⟩,q1,hE⟩;obtain⟨Pg,Uw,b0e,w5,r5,⟨Lz,e05,e15⟩,w7,r7,⟨e07,e17⟩,Aj,hz⟩:=hE;have HZ:=Q0a hz;generalize (cutK p.q e.id).ks.length=kl at *
 have Q0:(w3.setCell ⟨p.b,3,none⟩ (.slice (some ⟨g,0,none⟩) kl cap)).drew.cell? ⟨q.f,0,none⟩=some (.map (some q.m)):=Pg;have b0e':(w3.setCell ⟨p.b,3,none⟩ (.slice (some ⟨g,0,none⟩) kl cap)).drew.cell? ⟨w.heap.size,0,none⟩=some (.int .i64 e.id):=b0e;have OK:w5.drew.cell? ⟨q.f,1,none⟩=some (.map (some q.o)):=Lz;have e05':w5.drew.cell? ⟨e.b,0,none⟩=some (.int .i64 e.q.sp):=e05;have e15':w5.drew.cell? ⟨e.b,1,none⟩=some (.int .i64 e.q.sl):=e15;clear hz Hg FN hl QS c0 Sv b0 b0d k2 k3;go_wp2_with fail;go_region;go_wp2_with fail;go_region;have g0:=Aj.cell 0 _ rfl;have g1:=Aj.cell 1 _ rfl
 have gf0:=Aj.free 0;have gf1:=Aj.free 1;have glt:=Aj.lt;clear Aj;go_wp2_with fail;refine bodyPost_ret (v:=.agg #[.int .i64 e.q.sp,.int .i64 e.q.sl]) (by simp [results,results235,go_sem,g0,g1]) rfl ⟨⟨_,rfl⟩,HZ.out _ _⟩
theorem Z3v {w:World} {q:FO} (h:Sep w q.hl) (ok:q.Ok) {e:En Nd} (he:find q.N e.id=some e) (hp:find q.N e.q.par=none) :
  Calls prog 235 #[.pointer (some ⟨q.f,0,none⟩),.int .i64 e.id] w fun r w'=>(∃v,r=.returned v)/\Z9a q e w w':=by
 have hb:=Q2W w e.id;have Fe:=(Cells.new w 3 [.int .i64 e.id]).alloc (.cells #[.int .i64 0,.int .i64 0] 46);have b0:=Fe.cell 0 _ rfl;have FT:=(h.grown hb).sep;have c0:=FO.c0 FT;have hl:=FO.look_some FT he;have Sv:(Q0D w e.id).drew.cell? ⟨q.f,0,none⟩=some (.map (some q.m)):=c0;have b0d:(Q0D w e.id).drew.cell? ⟨w.heap.size,0,none⟩=some (.int .i64 e.id):=b0;have QS:=FO.look_some FT.drew he;have FN:=Q4Q FT.drew hp;have k2:=(FO.nd0 FT.drew he).2.2.1;have B3:Cells (Q0D w e.id) (w.heap.size+1) 46 [.int .i64 0,.int .i64 0]:=by
  have:=Cells.new (w.alloc (.cells #[.int .i64 e.id] 3)) 46 [.int .i64 0,.int .i64 0];rw [show (w.alloc (.cells #[.int .i64 e.id] 3)).heap.size=w.heap.size+1 by simp] at this;exact this
 have Ar:∀c∈q.N,c.id≠e.q.par:=fun c hc hx=>by
  have:=Q0g ok.n.ids hc;rw [hx,hp] at this;cases this
 have e1:q.cut e.id=q.dropped e:=by
  unfold FO.cut FO.dropped;rw [Z6z Ar]
 have hE:J0M q q e w (Q0D w e.id).drew:=Q9G h ok ((Below.refl _ _).drew) ((h.grown hb).drew) he ok.n.ids ok.n.spots (fun c hc=>ok.n.sm c hc) e1 rfl rfl rfl rfl b0d B3 (fun _ h=>h);obtain⟨Pg,Uw,b0e,w5,r5,⟨Lz,e05,e15⟩,w7,r7,⟨e07,e17⟩,Aj,hz⟩:=hE;have HZ:=Q0a hz;have Q0:(Q0D w e.id).drew.drew.cell? ⟨q.f,0,none⟩=some (.map (some q.m)):=Pg;have b0e':(Q0D w e.id).drew.drew.cell? ⟨w.heap.size,0,none⟩=some (.int .i64 e.id):=b0e;have OK:w5.drew.cell? ⟨q.f,1,none⟩=some (.map (some q.o)):=Lz;have e05':w5.drew.cell? ⟨e.b,0,none⟩=some (.int .i64 e.q.sp):=e05;have e15':w5.drew.cell? ⟨e.b,1,none⟩=some (.int .i64 e.q.sl):=e15
 have g0:=Aj.cell 0 _ rfl;have g1:=Aj.cell 1 _ rfl;have gf0:=Aj.free 0;have gf1:=Aj.free 1;have glt:=Aj.lt;clear h ok he hp hb FT Fe B3 Ar e1 hz Aj;unfold Q0D at *
 go_enter func235,ntmps235;go_wp2_with fail;go_region;go_wp2_with fail;refine FN.mono ?_;rintro r w' ⟨rfl,rfl⟩;clear FN hl QS c0 b0 k2;go_wp2_with fail;go_region;go_wp2_with fail;go_region;go_wp2_with fail;refine bodyPost_ret (v:=.agg #[.int .i64 e.q.sp,.int .i64 e.q.sl]) (by simp [results,results235,go_sem,g0,g1]) rfl ⟨⟨_,rfl⟩,HZ.out _ _⟩
theorem Z6H {w:World} {q:FO} (h:Sep w q.hl) (ok:q.Ok) {e:En Nd} (he:find q.N e.id=some e) :
  Calls prog 235 #[.pointer (some ⟨q.f,0,none⟩),.int .i64 e.id] w fun r w'=>(∃v,r=.returned v)/\Z9a q e w w':=by
 cases hp:find q.N e.q.par with
 | none=>exact Z3v h ok he hp
 | some p=>exact Z6G h ok he hp
end Go.Proofs.YtlakjlmaboioiaaGreatDoor
