/- SpaceFails returns true at every input. No condition. Part of its proof. -/
import Derived.Test.YtfidemmgofcnmaaGreatDoorSf18
import Derived.Deep.CutRange
set_option maxHeartbeats 8000000
set_option maxRecDepth 100000
set_option linter.unusedVariables false
namespace Go.Proofs.YtfidemmgofcnmaaGreatDoor
open Go.RowKit Go.Proofs.Tryz
theorem Q9J{w wr:World}{q:FO}(h:Sep w q.hl)(ok:q.Ok){id x:Int}{e:En Nd}(hf:find q.N id=some e){g n cap:Nat}{u:Value}{ws M:List Int}(T:TwoI w wr (.slice (some ⟨g,0,none⟩) n cap) (ws++[x]) u M)(B:BelI q id (ws++[x]) M) :
  n=ws.length+1/\ws.length+1<=cap/\ws.length+1<=65536/\cap<=maxLen/\wr.cell? ⟨g,ws.length,none⟩=some (.int .i64 x)/\∃(xb:Nat) (a0:Option Addr) (n0 c0:Nat),
   (wr.cell? ⟨q.f,0,none⟩=some (.map (some q.m))/\(Instr.lookup 280 (.map (some q.m)) (.int .i64 x) false).run prog wr=.ok (.pointer (some ⟨xb,0,none⟩)) wr/\wr.cell? ⟨xb,3,none⟩=some (.slice a0 n0 c0)) /\
   (wr.drew.cell? ⟨q.f,0,none⟩=some (.map (some q.m))/\(Instr.lookup 280 (.map (some q.m)) (.int .i64 x) false).run prog wr.drew=.ok (.pointer (some ⟨xb,0,none⟩)) wr.drew/\wr.drew.cell? ⟨xb,3,none⟩=some (.slice a0 n0 c0)) /\
   ∃(a1:Option Addr) (n1 c1:Nat) (w1:World) (v2:Value) (w2:World),(Builtin.append_ #[38,38] 38 #[.slice (some ⟨g,0,none⟩) ws.length cap,.slice a0 n0 c0]).run prog wr.drew=.ok (.slice a1 n1 c1) w1 /\
    (Builtin.append_ #[38,38] 38 #[u,.slice (some ⟨w1.heap.size,0,none⟩) 1 1]).run prog (w1.alloc (.cells #[.int .i64 x] 3))=.ok v2 w2 /\
    ∃ws',TwoI w w2 (.slice a1 n1 c1) ws' v2 (M++[x])/\BelI q id ws' (M++[x])/\slen v2=slen u+1/\slen u+1<=(preT (kdF q.N) (rkF q.next) id).length:=by
 obtain⟨Ag,hn,_,_,A4,I3,_⟩:=T.1.parts;obtain⟨l1,l2,_⟩:=B.len ok hf;obtain⟨ex,FW⟩:=B.nodes x (by simp);rw[J3M,J7e] at hn A4 l1;obtain⟨v1,w1,v2,w2,r1,r2,G4⟩:=Z0V h ok FW T (by omega) l2;have B2:=B.step ok FW;obtain⟨_,_,l3⟩:=B2.len ok hf;obtain⟨a1,c1,rfl⟩:=G4.1.shape;obtain⟨a2,c2,Iz⟩:=G4.2.1.shape;obtain⟨au,cu,hu⟩:=T.2.1.shape;have hs:Sep wr q.hl:=(h.grown T.1.2).sep;have k3:=(FO.nd0 hs FW).2.2.2;have Kw:=(FO.nd0 hs.drew FW).2.2.2;have Pk:=(Q0b FW).2;rw[Pk] at k3 Kw;obtain⟨a0,n0,c0,Ke⟩:∃a n c,lvOf (q.kr x) ex.q.ks.length=.slice a n c:=by
  cases q.kr x with
  | none=>exact⟨_,_,_,rfl⟩
  | some p=>exact⟨_,_,_,rfl⟩
 rw[Ke] at k3 Kw r1;refine⟨hn,A4,by omega,I3,(T.1.cellAt (j:=ws.length) (x:=x) (by simp)).1,ex.b,a0,n0,c0,⟨FO.c0 hs,FO.look_some hs FW,k3⟩,⟨FO.c0 hs.drew,FO.look_some hs.drew FW,Kw⟩,a1,_,c1,w1,v2,w2,r1,r2,ws++ex.q.ks,G4,B2,?_,?_⟩
 ·rw[Iz,hu];simp[slen]
 ·rw[hu];rw[J3M,J7e] at l3;exact l3
theorem Z0W{w:World}{q:FO}(h:Sep w q.hl)(ok:q.Ok){id:Int}{e:En Nd}(hf:find q.N id=some e) :
  Calls prog 157 #[.pointer (some ⟨q.f,0,none⟩),.int .i64 id] w (NewIs w (Q0H (kdF q.N) (rkF q.next) id)):=by
 have ka:=Q2Y h hf;have HH:=Q0a h;have Ci:=Q0a ok;have HF:=Q0a hf;obtain⟨-,-,-,-,EA,xb,a0,n0,c0,⟨f0,lk,k3⟩,⟨f0d,lkd,Kw⟩,a1,n1,c1,w1,v2,w2,r1,r2,ws',G4,Ji,Ac,Et⟩:=Q9J (ws:=[]) h ok hf (TwoI.startI w id) (BelI.start hf);rw[J5B] at EA r1;have Hk:=Q0a r1;have M9:IntKind.i64.wrap 0=0:=Go.IntWalk.i64_in _ (by omega);have JR:=Q0a G4;have E3:=Q0a Ji;clear h ok hf G4 Ji r1 Ac Et;go_enter func157,ntmps157;go_wp2_with fail;refine wp_scope_jumps 0 (fun a' w'=>∃(wv ov:Value) (ws M:List Int) (u7 u8 u9 u10 u11 u12 u13 u14 u15 u16 u17 u18 u19 u20 u21 u22 u23 u24 u25 u26 u27 u28 u29 u30 u31 u32 u33 u34 u35 u36 u37 u38 u39 u40 u41 u42 u43 u44 u45 u46 u47 u48:Value),a'={tmps:=#[.pointer (some ⟨q.f,0,none⟩),.int .i64 id,undef,undef,.slice none 0 0,ov,wv,u7,u8,u9,u10,u11,u12,u13,u14,u15,u16,u17,u18,u19,u20,u21,u22,u23,u24,u25,u26,u27,u28,u29,u30,u31,u32,u33,u34,u35,u36,u37,u38,u39,u40,u41,u42,u43,u44,u45,u46,u47,u48],defers:=[]}/\TwoI w w' wv ws ov M/\BelI q id ws M) (fun a' _=>(preT (kdF q.N) (rkF q.next) id).length-slen (a'.tmps.getD 5 undef)) rfl ?_ ?_
 ·go_wp2_with fail;refine ka.mono ?_;rintro r w'⟨rfl,rfl⟩;go_wp2_with fail
  go_step3
  go_wp2_with fail
  go_region_law (refine Q0E rfl (.tmp 27) (.tmp 36) 38 38 rfl _ _ (by simp[Act.eval]) (by simp[Act.eval]) Hk.out ?_)
  all_goals
   go_wp2_with (at_builtin;refine Lib.wpList_append_run _ rfl _ _ _ _ rfl _ _ rfl rfl _ _ r2 ?_)
   go_step3
   refine⟨rfl,.slice a1 n1 c1,v2,ws',[]++[id],_,_,_,_,_,_,_,_,_,_,_,_,_,_,_,_,_,_,_,_,_,_,_,_,_,_,_,_,_,_,_,_,_,_,_,_,_,_,_,_,_,_,rfl,JR.out,E3.out⟩
 ·rintro a' wr⟨wv,ov,ws,M,u7,u8,u9,u10,u11,u12,u13,u14,u15,u16,u17,u18,u19,u20,u21,u22,u23,u24,u25,u26,u27,u28,u29,u30,u31,u32,u33,u34,u35,u36,u37,u38,u39,u40,u41,u42,u43,u44,u45,u46,u47,u48,rfl,hT,hB⟩;have A7:ws=[]∨∃(ws':List Int) (y:Int),ws=ws'++[y]:=by
   rcases J7B ws with h|⟨a,b,h⟩
   ·exact .inl h
   ·exact .inr ⟨a,b,by rw[h,J7C]⟩
  rcases A7 with rfl|⟨ws0,x,rfl⟩
  ·have BA:=hB.done Ci.out;have Ge:=(hB.len Ci.out HF.out).2.1;have Aa:M≠[]:=fun e=>by rw[e] at BA;simp at BA
   obtain⟨aw,cw,rfl⟩:=hT.1.shape;obtain⟨g,co,rfl⟩:=hT.2.1.shape1 Aa;obtain⟨_,_,_,_,KM,_⟩:=hT.2.1.parts;have D7:=Q9I g co M.toArray wr (Z3D hT.2.1) (by simpa using Ge);have AS:∀n,NewIs w (Q0H (kdF q.N) (rkF q.next) id) (.returned (.slice (some ⟨g,0,none⟩) (Q0H (kdF q.N) (rkF q.next) id).length co)) (Go.Sort.putRow encI (Go.Sort.ahead wr n) g 0 M.toArray.reverse):=fun n=>by
    have h1:=hT.2.1.reversed (k:=n);rw[BA] at h1;have h2:=h1.cut;exact⟨_,rfl,h2.1,h2.2⟩
   have DG:M.length=(Q0H (kdF q.N) (rkF q.next) id).length+1:=by
    have:=congrArg List.length BA
    simpa using this
   have Bi:=Q0a AS;rw[show M.toArray.size=M.length from rfl] at D7;rw[DG] at D7 KM Ge ⊢;generalize hm:(Q0H (kdF q.N) (rkF q.next) id).length=m at *
   have G9:((m:Nat):Int)<=(co:Int):=by omega
   have A4:m<=co:=by omega
   have Ww:(m:Int)<65536:=by omega
   have hw:IntKind.i64.wrap (m:Int)=(m:Int):=Go.IntWalk.i64_in _ (by omega);clear AS hT hB BA Aa DG hm Ge KM JR E3 Hk r2 EA f0 lk k3 f0d lkd Kw ka;generalize NewIs w (Q0H (kdF q.N) (rkF q.next) id)=Q at *
   go_wp2_with fail;refine D7.mono ?_;rintro r w3⟨rfl,n,rfl⟩;have HQ:=Q0a (Bi.out n);clear D7 Bi;generalize Go.Sort.putRow encI (Go.Sort.ahead wr n) g 0 M.toArray.reverse=w3 at *
   go_wp2_with fail
   try simp only[Exit.jump]
   (try go_ret);exact HQ.out
  ·clear JR E3 Hk r2 EA f0 lk k3 f0d lkd Kw ka M9;obtain⟨g,cap,rfl⟩:=hT.1.shape1 (by simp);obtain⟨hn,A4,So,_,EA,xb,a0,n0,c0,⟨f0,lk,k3⟩,⟨f0d,lkd,Kw⟩,a1,n1,c1,w1,v2,w2,r1,r2,ws',G4,Ji,Ac,Et⟩:=Q9J HH.out Ci.out HF.out hT hB;have Hk:=Q0a r1;have JR:=Q0a G4;have E3:=Q0a Ji;obtain⟨au,cu,rfl⟩:=hT.2.1.shape;have A8:(preT (kdF q.N) (rkF q.next) id).length-slen v2<(preT (kdF q.N) (rkF q.next) id).length-slen (.slice au M.length cu):=by omega
   have PM:=Q0a A8;rw[hn];generalize ws0.length=n at *
   have G9:((n:Nat):Int)<=(cap:Int):=by omega
   have Sp:n<=cap:=by omega
   have VP:(n:Int)<65536:=by omega
   have hw:IntKind.i64.wrap (n:Int)=(n:Int):=Go.IntWalk.i64_in _ (by omega);have Dk:(0:Int)<=(n:Int):=by omega
   clear hT hB G4 Ji r1 A8 Ac Et hn A4 So;go_wp2_with fail
   go_region_law (refine Q0E rfl (.tmp 27) (.tmp 36) 38 38 rfl _ _ (by simp[Act.eval]) (by simp[Act.eval]) Hk.out ?_)
   all_goals
    go_wp2_with (at_builtin;refine Lib.wpList_append_run _ rfl _ _ _ _ rfl _ _ rfl rfl _ _ r2 ?_)
    go_step3
    refine⟨rfl,⟨.slice a1 n1 c1,v2,ws',M++[x],_,_,_,_,_,_,_,_,_,_,_,_,_,_,_,_,_,_,_,_,_,_,_,_,_,_,_,_,_,_,_,_,_,_,_,_,_,_,_,_,_,_,rfl,JR.out,E3.out⟩,PM.out⟩
theorem Q6H{w:World}{Z:SP}(hs:Sep w Z.hl)(ok:Z.F.Ok){x z g f:Nat}(hx:x<4294967296)(hz:z<256) :
  Calls prog 156 #[.pointer (some ⟨Z.s,0,none⟩),.agg #[.pointer (some ⟨g,0,none⟩),.int .u32 x,.int .i64 f],.int .i64 z] w (Told w (.int .i64 (ownN Z.F.N (x:Int) (z:Int)))):=by
 have b1:Below w.heap.size w (w.alloc (.cells #[.pointer (some ⟨g,0,none⟩),.int .u32 x,.int .i64 f] 191)):=(Below.refl _ _).alloc (J3b _) _;have s1:=(hs.grown b1).sep;have c1:=SP.c1 s1;have Qx:(w.alloc (.cells #[.pointer (some ⟨g,0,none⟩),.int .u32 x,.int .i64 f] 191)).drew.cell? ⟨Z.s,1,none⟩=some (.pointer (some ⟨Z.F.f,0,none⟩)):=c1;have hB:=Cells.new w 191 [.pointer (some ⟨g,0,none⟩),.int .u32 x,.int .i64 f];have q1:=hB.cell 1 _ rfl;have Vn:(w.alloc (.cells #[.pointer (some ⟨g,0,none⟩),.int .u32 x,.int .i64 f] 191)).drew.cell? ⟨w.heap.size,1,none⟩=some (.int .u32 x):=q1;have g1:(0:Int)<=(x:Int):=by omega
 have g2:(x:Int)<9223372036854775808:=by omega
 have g3:(0:Int)<=(z:Int):=by omega
 have g4:(z:Int)<9223372036854775808:=by omega
 have kf:=Q4O (SP.sF s1.drew) ok (sp:=(x:Int)) (sl:=(z:Int)) (Q3u (p:=((x:Int),(z:Int))) g1 g2 g3 g4);have HR:Hid (Below w.heap.size w (w.alloc (.cells #[.pointer (some ⟨g,0,none⟩),.int .u32 x,.int .i64 f] 191)).drew):=b1.drew;have Dl:(x:Int)<4294967296:=by omega
 have M7:IntKind.i64.wrap (x:Int)=(x:Int):=Go.IntWalk.i64_in _ (by omega);generalize ownN Z.F.N (x:Int) (z:Int)=oid at *
 clear hs ok hx hz b1 s1 hB g2 g3 g4;go_enter func156,ntmps156;go_wp2_with fail
 go_region_held3 (fun w'=>w'.cell? ⟨Z.s,1,none⟩=some (.pointer (some ⟨Z.F.f,0,none⟩))/\w'.cell? ⟨w.heap.size,1,none⟩=some (.int .u32 x)) (first|exact⟨c1,q1⟩|exact⟨Qx,Vn⟩)
  (first|(go_at_call 161;refine kf.mono ?_;rintro r w'⟨rfl,rfl⟩))
 go_wp2_with fail
 (try go_ret);exact⟨rfl,HR.out⟩
def revL(q:FO)(id:Int)(self:Bool):List Int:=Q0H (kdF q.N) (rkF q.next) id++if self=true then [id] else []
theorem Z2q{q:FO}(ok:q.Ok){id:Int}{e:En Nd}(hf:find q.N id=some e)(self:Bool):(revL q id self).length<=65537:=by
 have h:=Z2p ok hf;rw[Q3L ok.n.tree,J3N,J7A] at h;unfold revL;rw[J3M];split <;> simp <;> omega
theorem Q7K{w:World}{Z:SP}(hs:Sep w Z.hl)(ok:Z.F.Ok){id:Int}{e:En Nd}(hf:find Z.F.N id=some e) :
  Calls prog 157 #[.pointer (some ⟨Z.F.f,0,none⟩),.int .i64 id] w fun r w'=>Below w.heap.size w w'/\∃(a:Option Addr) (cap:Nat),r=.returned (.slice a (Q0H (kdF Z.F.N) (rkF Z.F.next) id).length cap)/\OutI w w' (.slice a (Q0H (kdF Z.F.N) (rkF Z.F.next) id).length cap) (Q0H (kdF Z.F.N) (rkF Z.F.next) id):=by
 refine(Z0W (SP.sF hs) ok hf).mono ?_;rintro r w'⟨v,rfl,h1,h2⟩;obtain⟨a,cap,rfl⟩:=OutI.shape (w:=w) (wr:=w') ⟨h1,h2⟩;exact⟨h2,a,cap,rfl,h1,h2⟩
theorem OutI.aside{w w':World}{H:HL}{v:Value}{L:List Int}(h:OutI w w' v L)(hs:Sep w H):∃(a:Option Addr) (cap:Nat),v=.slice a L.length cap/\AsideV H (L.map encI) a w':=Q5k hs h.1
def RevR(Z:SP)(fr:List Nat)(N K:Nat)(M:Int)(x:Nat)(z mask:Int)(self:Bool)(w:World)(r:Ending)(w':World):Prop:=
 (∃e:Int,r=.returned (.tuple #[.int .i64 0,.int .i64 e])/\Below w.heap.size w w'/\((pget Z.S.l 1 x=none/\e=8)∨∃p,pget Z.S.l 1 x=some p/\((p.kind≠2/\e=10)∨(p.kind=2/\¬(0<=z/\z<256)/\e=2) ∨
  (p.kind=2/\(0<=z/\z<256)/\¬(0<mask/\mask<=15)/\e=1)∨(p.kind=2/\(0<=z/\z<256)/\(0<mask/\mask<=15)/\Q0f Z.S.l Z.tb x z.toNat=none/\e=6)))) ∨
 (∃(s m:Nat) (n:En Nd) (en:Ent),z=(s:Int)/\mask=(m:Int)/\s<256/\1<=m/\m<16/\Q0f Z.S.l Z.tb x s=some en/\n∈Z.F.N/\n.q.sp=(x:Int)/\n.q.sl=(s:Int) /\
  r=.returned (.tuple #[.int .i64 ((Q0P m Z.av (revL Z.F n.id self)).2:Nat),.int .i64 0])/\Q8u Z fr N K M m (revL Z.F n.id self) w w')
theorem Z3G{w:World}{Z:SP}{fr:List Nat}{N K:Nat}{M:Int}(hs:Sep w Z.hl)(ok:Z.Ok fr N K M){x:Nat}(hx:x<4294967296){p:Pl}(hp:pget Z.S.l 1 x=some p)(hk:p.kind=2){s m:Nat}(AB:s<256)(DH:1<=m)(hm:m<16){en:Ent}(he:Q0f Z.S.l Z.tb x s=some en)(self:Bool) :
  Calls prog 81 #[.pointer (some ⟨Z.s,0,none⟩),.int .u32 x,.int .i64 s,.int .i64 m,.bool self] w (RevR Z fr N K M x (s:Int) (m:Int) self w):=by
 have ks:=Q0N hs ok.core hx hp hk;have hi:=(pget_some.1 hp).1;have Ap:=(pget_some.1 hp).2.2;obtain⟨n,hn,n1,n2,Af,Fn⟩:=ok.fpi.own ok.fo.n he;have AA:(Z.tb (x%256)).at' (s:Int)=some en:=by
  unfold TB.at';rw[if_pos ⟨by omega,by omega⟩,J4h,<- Q0g hp hk AB];exact he
 have A8:=ok.fpi.low ok.core.inv.lok he;have HC:Hid (∀(w2:World) (g:Nat),Below w.heap.size w w2->TblZ Z p g w2->Calls prog 93 #[.agg #[.pointer (some ⟨g,0,none⟩),.int .u32 x,.int .i64 (p.fac:Int)],.int .i64 s] (w2.alloc (.cells #[.pointer (some ⟨g,0,none⟩),.int .u32 x,.int .i64 (p.fac:Int)] 191)) (fun r w4=>r=.returned (.tuple #[.agg #[.int .u32 (en.h:Int),.int .i64 (en.r:Int)],.bool true]) /\
   ∀o,Below w.heap.size w (w4.alloc o)/\Cells (w4.alloc o) w2.heap.size 191 [.pointer (some ⟨g,0,none⟩),.int .u32 x,.int .i64 (p.fac:Int)])):=fun w2 g Ai hg=>by
  have Ar:Below w2.heap.size w2 (w2.alloc (.cells #[.pointer (some ⟨g,0,none⟩),.int .u32 x,.int .i64 (p.fac:Int)] 191)):=(Below.refl _ _).alloc (J3b _) _;have BO:=Ai.alloc Ai.size (.cells #[.pointer (some ⟨g,0,none⟩),.int .u32 x,.int .i64 (p.fac:Int)] 191);have s2:=(hs.grown Ai).sep;have T:=(ok.tpi.x (p.fac:Int)).tt ok.core hi Ap hk (SP.sS (s2.grown Ar).sep) (hg.grown s2 Ar).c;refine(Q1m T (x:Int) (p.fac:Int) (s:Int) fun e AT=>by rw[AA] at AT;cases AT;exact A8).mono ?_;rw[AA];rintro r w4⟨rfl,A9⟩;have Ee:Below w.heap.size w w4:=BO.trans (A9.mono BO.size);have hB:=(Cells.new w2 191 [.pointer (some ⟨g,0,none⟩),.int .u32 x,.int .i64 (p.fac:Int)]).same (A9.block w2.heap.size (by simp))
  exact⟨rfl,fun o=>⟨Ee.alloc Ee.size o,hB.alloc o⟩⟩
 have DK:=fun W=>Q2Z W (s:Int)
 rw[decide_eq_true (show 0<=(s:Int)/\(s:Int)<256 from⟨by omega,by omega⟩)] at DK;have ER:=fun W=>Q3S W (m:Int)
 rw[decide_eq_true (show 0<(m:Int)/\(m:Int)<=15 from⟨by omega,by omega⟩)] at ER;have Bd:=Q0a DK;have Bl:=Q0a ER;have HN:Hid (∀W g,Below w.heap.size w W->Calls prog 156 #[.pointer (some ⟨Z.s,0,none⟩),.agg #[.pointer (some ⟨g,0,none⟩),.int .u32 x,.int .i64 (p.fac:Int)],.int .i64 s] W fun r w'=>r=.returned (.int .i64 n.id)/\Below w.heap.size w w'/\w'.cell? ⟨Z.s,1,none⟩=some (.pointer (some ⟨Z.F.f,0,none⟩)) /\
   Calls prog 157 #[.pointer (some ⟨Z.F.f,0,none⟩),.int .i64 n.id] w' fun r w5=>∃(a:Option Addr) (cap:Nat),r=.returned (.slice a (Q0H (kdF Z.F.N) (rkF Z.F.next) n.id).length cap) /\
    (self=false->Calls prog 158 #[.pointer (some ⟨Z.s,0,none⟩),.int .i64 m,.slice a (Q0H (kdF Z.F.N) (rkF Z.F.next) n.id).length cap] w5 fun r w6=>∃v:Int,r=.returned (.int .i64 v)/\RevR Z fr N K M x (s:Int) (m:Int) self w (.returned (.tuple #[.int .i64 v,.int .i64 0])) w6) /\
    (self=true->∃(a2:Option Addr) (n2 c2:Nat) (w6:World),(Builtin.append_ #[38,38] 38 #[.slice a (Q0H (kdF Z.F.N) (rkF Z.F.next) n.id).length cap,.slice (some ⟨w5.heap.size,0,none⟩) 1 1]).run prog (w5.alloc (.cells #[.int .i64 n.id] 3))=.ok (.slice a2 n2 c2) w6 /\
     Calls prog 158 #[.pointer (some ⟨Z.s,0,none⟩),.int .i64 m,.slice a2 n2 c2] w6 fun r w7=>∃v:Int,r=.returned (.int .i64 v)/\RevR Z fr N K M x (s:Int) (m:Int) self w (.returned (.tuple #[.int .i64 v,.int .i64 0])) w7)):=fun W g FX=>by
  have sW:=(hs.grown FX).sep;refine(Q6H sW ok.fo hx AB).mono ?_;rw[Af];rintro r w'⟨rfl,Al⟩;have Fs:Below w.heap.size w w':=FX.trans (Al.mono FX.size);have s':=(hs.grown Fs).sep;refine⟨rfl,Fs,SP.c1 s',(Q7K s' ok.fo Fn).mono ?_⟩;rintro r w5⟨AD,a,cap,rfl,Am⟩;have Uv:Below w.heap.size w w5:=Fs.trans (AD.mono Fs.size);have Ac:=Z2q ok.fo Fn self;have fin:∀{w6:World} {v:Value} {L:List Int},L=revL Z.F n.id self->OutI w' w6 v L->∃(a:Option Addr) (cap:Nat),v=.slice a L.length cap/\Calls prog 158 #[.pointer (some ⟨Z.s,0,none⟩),.int .i64 m,.slice a L.length cap] w6 fun r w6=>∃v:Int,r=.returned (.int .i64 v)/\RevR Z fr N K M x (s:Int) (m:Int) self w (.returned (.tuple #[.int .i64 v,.int .i64 0])) w6:=fun {w6 v L} hL ho=>by
   obtain⟨a,cap,rfl,has⟩:=ho.aside s';have C8:Below w.heap.size w w6:=Fs.trans (ho.2.mono Fs.size);refine⟨a,cap,rfl,(Q2y (hs.grown C8).sep ok m DH hm L a cap (by rw[hL];omega) has ?_).mono ?_⟩
   ·rw[hL];exact Q9j (a:=Z.av) ok.fo.n n.id self
   ·rintro r w7⟨rfl,Z',k1,k2,k3,k4⟩;rw[hL];rw[hL] at k2;exact⟨_,rfl,.inr ⟨s,m,n,en,rfl,rfl,AB,DH,hm,he,hn,n1,n2,rfl,Z',k1,k2,k3,(hs.grown C8).trans k4⟩⟩
  refine⟨a,cap,rfl,fun GH=>?_,fun GH=>?_⟩
  ·obtain⟨a',BG,hv,hc⟩:=fin (by unfold revL;rw[GH];simp) Am;cases hv;exact hc
  ·have D1:(Q0H (kdF Z.F.N) (rkF Z.F.next) n.id).length<=16777216:=by
    unfold revL at Ac;rw[J3M] at Ac;omega
   obtain⟨v',w6,AK,Ed⟩:=Am.app D1 n.id 38;obtain⟨a',BG,rfl,hc⟩:=fin (by unfold revL;rw[GH];simp) Ed;exact⟨a',_,BG,w6,AK,hc⟩
 generalize RevR Z fr N K M x (s:Int) (m:Int) self w=Q at *
 generalize (Q0H (kdF Z.F.N) (rkF Z.F.next) n.id).length=bl at *
 clear hs ok hx hp hk hi Ap he AA A8 hn n1 n2 Af Fn DK ER DH hm;go_enter func81,ntmps81;go_wp2_with fail;refine ks.mono ?_;rintro r w2⟨g,rfl,Ai,hg⟩;have kc:=HC.out w2 g Ai hg;clear Ai hg HC ks;go_wp2_with fail;refine kc.mono ?_;rintro r w4⟨rfl,hz⟩;obtain⟨A9,Fh⟩:=hz (.cells #[.int .u32 (en.h:Int),.int .i64 (en.r:Int)] 72);have kh:=Bd.out (w4.alloc (.cells #[.int .u32 (en.h:Int),.int .i64 (en.r:Int)] 72));have kr:=Bl.out (w4.alloc (.cells #[.int .u32 (en.h:Int),.int .i64 (en.r:Int)] 72));have kn:=HN.out (w4.alloc (.cells #[.int .u32 (en.h:Int),.int .i64 (en.r:Int)] 72)) g A9
 have b0:=Fh.cell 0 _ rfl;have b1:=Fh.cell 1 _ rfl;have b2:=Fh.cell 2 _ rfl;have SG:=Q0a kn;clear hz A9 Fh kc Bd Bl HN kn;go_wp2_with fail;refine kh.mono ?_;rintro r w'⟨rfl,rfl⟩;go_wp2_with fail;refine kr.mono ?_;rintro r w'⟨rfl,rfl⟩;go_wp2_with fail;refine SG.out.mono ?_;rintro r w5⟨rfl,AD,c5,kb⟩;have Sb:=Q0a kb;clear AD kb SG kh kr;go_wp2_with fail;refine Sb.out.mono ?_;rintro r w6⟨a,cap,rfl,h1,h2⟩;have H1:=Q0a h1;have H2:=Q0a h2;clear h1 h2 Sb b0 b1 b2;cases self with
 | false =>
  have kw:=Q0a (H1.out rfl);clear H1 H2;go_wp2_with fail;refine kw.out.mono ?_;rintro r w7⟨v,rfl,hq⟩;have HQ:=Q0a hq;clear hq kw;go_wp2_with fail
  (try go_ret2);exact HQ.out
 | true =>
  obtain⟨a2,n2,c2,w7,AK,RR⟩:=H2.out rfl;have kw:=Q0a RR;clear H1 H2 RR;go_wp2_with (at_builtin;refine Lib.wpList_append_run _ rfl _ _ _ _ rfl _ _ rfl rfl _ _ AK ?_);refine kw.out.mono ?_;rintro r w8⟨v,rfl,hq⟩;have HQ:=Q0a hq;clear hq kw;go_wp2_with fail
  (try go_ret2);exact HQ.out
theorem Q2N(o:Option Ent):∃(a b:Int),capV o=.tuple #[.agg #[.int .u32 a,.int .i64 b],.bool o.isSome]:=by
 cases o with
 | none=>exact⟨0,0,rfl⟩
 | some e=>exact⟨_,_,rfl⟩
theorem Q5t{w:World}{Z:SP}{fr:List Nat}{N K:Nat}(hs:Sep w Z.hl)(ok:Z.S.Ok fr N K){x:Nat}(hx:x<4294967296)(z mask:Int)(self:Bool)(e:Int)(he:e≠0)(hw:(pget Z.S.l 1 x=none/\e=8)∨∃p,pget Z.S.l 1 x=some p/\p.kind≠2/\e=10) :
  Calls prog 81 #[.pointer (some ⟨Z.s,0,none⟩),.int .u32 x,.int .i64 z,.int .i64 mask,.bool self] w (Told w (.tuple #[.int .i64 0,.int .i64 e])):=by
 have ks:=Q0I hs ok hx e hw;have FV:(e==0)=false:=by simpa using he
 have HC:Hid (∀w1,Below w.heap.size w w1->∀o,Below w.heap.size w (w1.alloc o)):=fun w1 hb o=>hb.alloc hb.size o
 clear hs ok hx hw;go_enter func81,ntmps81;go_wp2_with fail;refine ks.mono ?_;rintro r w1⟨rfl,Aw⟩;have HQ:=Q0a (HC.out w1 Aw);clear Aw HC ks;go_wp2_with fail
 (try go_ret2);exact⟨rfl,HQ.out _⟩
theorem Q4m{w:World}{Z:SP}{fr:List Nat}{N K:Nat}{M:Int}(hs:Sep w Z.hl)(ok:Z.Ok fr N K M){x:Nat}(hx:x<4294967296){p:Pl}(hp:pget Z.S.l 1 x=some p)(hk:p.kind=2)(z mask:Int)(self:Bool)(e:Int)
  (hw:(¬(0<=z/\z<256)/\e=2)∨((0<=z/\z<256)/\¬(0<mask/\mask<=15)/\e=1)∨((0<=z/\z<256)/\(0<mask/\mask<=15)/\Q0f Z.S.l Z.tb x z.toNat=none/\e=6)) :
  Calls prog 81 #[.pointer (some ⟨Z.s,0,none⟩),.int .u32 x,.int .i64 z,.int .i64 mask,.bool self] w (Told w (.tuple #[.int .i64 0,.int .i64 e])):=by
 have ks:=Q0N hs ok.core hx hp hk;have hi:=(pget_some.1 hp).1;have Ap:=(pget_some.1 hp).2.2;have AA:(Z.tb (x%256)).at' z=if 0<=z/\z<256 then Q0f Z.S.l Z.tb x z.toNat else none:=by
  unfold TB.at';split
  ·rename_i h;rw[Q0g hp hk (by omega)]
  ·rfl
 obtain⟨ca,cb,Cu⟩:=Q2N ((Z.tb (x%256)).at' z);have HC:Hid (∀(w2:World) (g:Nat),Below w.heap.size w w2->TblZ Z p g w2->Calls prog 93 #[.agg #[.pointer (some ⟨g,0,none⟩),.int .u32 x,.int .i64 (p.fac:Int)],.int .i64 z] (w2.alloc (.cells #[.pointer (some ⟨g,0,none⟩),.int .u32 x,.int .i64 (p.fac:Int)] 191)) (fun r w4=>r=.returned (.tuple #[.agg #[.int .u32 ca,.int .i64 cb],.bool ((Z.tb (x%256)).at' z).isSome])/\∀o,Below w.heap.size w (w4.alloc o))):=fun w2 g Ai hg=>by
  have Ar:Below w2.heap.size w2 (w2.alloc (.cells #[.pointer (some ⟨g,0,none⟩),.int .u32 x,.int .i64 (p.fac:Int)] 191)):=(Below.refl _ _).alloc (J3b _) _;have BO:=Ai.alloc Ai.size (.cells #[.pointer (some ⟨g,0,none⟩),.int .u32 x,.int .i64 (p.fac:Int)] 191);have s2:=(hs.grown Ai).sep;have T:=(ok.tpi.x (p.fac:Int)).tt ok.core hi Ap hk (SP.sS (s2.grown Ar).sep) (hg.grown s2 Ar).c;refine(Q1m T (x:Int) (p.fac:Int) z fun e AT=>?_).mono ?_
  ·rw[AA] at AT;split at AT
   ·exact ok.fpi.low ok.core.inv.lok AT
   ·cases AT
  ·rw[Cu];rintro r w4⟨rfl,A9⟩;have Ee:Below w.heap.size w w4:=BO.trans (A9.mono BO.size);exact⟨rfl,fun o=>Ee.alloc Ee.size o⟩
 have Ay:(decide (0<=z/\z<256)=false/\e=2)∨(decide (0<=z/\z<256)=true/\decide (0<mask/\mask<=15)=false/\e=1)∨(decide (0<=z/\z<256)=true/\decide (0<mask/\mask<=15)=true/\((Z.tb (x%256)).at' z).isSome=false/\e=6):=by
  rcases hw with ⟨h1,h2⟩|⟨h1,h2,h3⟩|⟨h1,h2,h3,h4⟩
  ·exact .inl ⟨decide_eq_false h1,h2⟩
  ·exact .inr (.inl ⟨decide_eq_true h1,decide_eq_false h2,h3⟩)
  ·exact .inr (.inr ⟨decide_eq_true h1,decide_eq_true h2,by rw[AA,if_pos h1,h3];rfl,h4⟩)
 have Bd:Hid (∀W,Calls prog 92 #[.int .i64 z] W fun r w'=>r=.returned (.bool (decide (0<=z/\z<256)))/\W=w'):=fun W=>Q2Z W z
 have Bl:Hid (∀W,Calls prog 106 #[.int .i64 mask] W fun r w'=>r=.returned (.bool (decide (0<mask/\mask<=15)))/\W=w'):=fun W=>Q3S W mask
 generalize ((Z.tb (x%256)).at' z).isSome=full at *
 generalize decide (0<=z/\z<256)=bh at *
 generalize decide (0<mask/\mask<=15)=br at *
 clear hs ok hx hp hk hw hi Ap AA Cu;rcases Ay with ⟨rfl,rfl⟩|⟨rfl,rfl,rfl⟩|⟨rfl,rfl,rfl,rfl⟩
 ·go_enter func81,ntmps81;go_wp2_with fail;refine ks.mono ?_;rintro r w2⟨g,rfl,Ai,hg⟩;have kc:=HC.out w2 g Ai hg;clear Ai hg HC ks;go_wp2_with fail;refine kc.mono ?_;rintro r w4⟨rfl,hz⟩;have HZ:=Q0a (hz (.cells #[.int .u32 ca,.int .i64 cb] 72));have kh:=Bd.out (w4.alloc (.cells #[.int .u32 ca,.int .i64 cb] 72));clear hz kc Bd Bl;go_wp2_with fail;refine kh.mono ?_;rintro r w'⟨rfl,rfl⟩;go_wp2_with fail
  (try go_ret2);exact⟨rfl,HZ.out⟩
 ·go_enter func81,ntmps81;go_wp2_with fail;refine ks.mono ?_;rintro r w2⟨g,rfl,Ai,hg⟩;have kc:=HC.out w2 g Ai hg;clear Ai hg HC ks;go_wp2_with fail;refine kc.mono ?_;rintro r w4⟨rfl,hz⟩;have HZ:=Q0a (hz (.cells #[.int .u32 ca,.int .i64 cb] 72));have kh:=Bd.out (w4.alloc (.cells #[.int .u32 ca,.int .i64 cb] 72));have kr:=Bl.out (w4.alloc (.cells #[.int .u32 ca,.int .i64 cb] 72));clear hz kc Bd Bl;go_wp2_with fail;refine kh.mono ?_;rintro r w'⟨rfl,rfl⟩;go_wp2_with fail;refine kr.mono ?_;rintro r w'⟨rfl,rfl⟩;go_wp2_with fail
  (try go_ret2);exact⟨rfl,HZ.out⟩
 ·go_enter func81,ntmps81;go_wp2_with fail;refine ks.mono ?_;rintro r w2⟨g,rfl,Ai,hg⟩;have kc:=HC.out w2 g Ai hg;clear Ai hg HC ks;go_wp2_with fail;refine kc.mono ?_;rintro r w4⟨rfl,hz⟩;have HZ:=Q0a (hz (.cells #[.int .u32 ca,.int .i64 cb] 72));have kh:=Bd.out (w4.alloc (.cells #[.int .u32 ca,.int .i64 cb] 72));have kr:=Bl.out (w4.alloc (.cells #[.int .u32 ca,.int .i64 cb] 72));clear hz kc Bd Bl;go_wp2_with fail;refine kh.mono ?_;rintro r w'⟨rfl,rfl⟩;go_wp2_with fail;refine kr.mono ?_;rintro r w'⟨rfl,rfl⟩;go_wp2_with fail
  (try go_ret2);exact⟨rfl,HZ.out⟩
theorem Q6I{w:World}{Z:SP}{fr:List Nat}{N K:Nat}{M:Int}(hs:Sep w Z.hl)(ok:Z.Ok fr N K M){x:Nat}(hx:x<4294967296)(z mask:Int)(self:Bool) :
  Calls prog 81 #[.pointer (some ⟨Z.s,0,none⟩),.int .u32 x,.int .i64 z,.int .i64 mask,.bool self] w (RevR Z fr N K M x z mask self w):=by
 cases hp:pget Z.S.l 1 x with
 | none =>
  refine(Q5t hs ok.core hx z mask self 8 (by decide) (.inl ⟨hp,rfl⟩)).mono ?_;rintro r w'⟨rfl,hb⟩;exact .inl ⟨8,rfl,hb,.inl ⟨hp,rfl⟩⟩
 | some p =>
  by_cases hk:p.kind=2
  ·by_cases hz:0<=z/\z<256
   ·by_cases hm:0<mask/\mask<=15
    ·cases he:Q0f Z.S.l Z.tb x z.toNat with
     | none =>
      refine(Q4m hs ok hx hp hk z mask self 6 (.inr (.inr ⟨hz,hm,he,rfl⟩))).mono ?_;rintro r w'⟨rfl,hb⟩;exact .inl ⟨6,rfl,hb,.inr ⟨p,hp,.inr (.inr (.inr ⟨hk,hz,hm,he,rfl⟩))⟩⟩
     | some en =>
      have MO:((z.toNat:Nat):Int)=z:=by omega
      have Gp:((mask.toNat:Nat):Int)=mask:=by omega
      have:=Z3G (s:=z.toNat) (m:=mask.toNat) hs ok hx hp hk (by omega) (by omega) (by omega) he self;rw[MO,Gp] at this;exact this
    ·refine(Q4m hs ok hx hp hk z mask self 1 (.inr (.inl ⟨hz,hm,rfl⟩))).mono ?_;rintro r w'⟨rfl,hb⟩;exact .inl ⟨1,rfl,hb,.inr ⟨p,hp,.inr (.inr (.inl ⟨hk,hz,hm,rfl⟩))⟩⟩
   ·refine(Q4m hs ok hx hp hk z mask self 2 (.inl ⟨hz,rfl⟩)).mono ?_;rintro r w'⟨rfl,hb⟩;exact .inl ⟨2,rfl,hb,.inr ⟨p,hp,.inr (.inl ⟨hk,hz,rfl⟩)⟩⟩
  ·refine(Q5t hs ok.core hx z mask self 10 (by decide) (.inr ⟨p,hp,hk,rfl⟩)).mono ?_;rintro r w'⟨rfl,hb⟩;exact .inl ⟨10,rfl,hb,.inr ⟨p,hp,.inl ⟨hk,rfl⟩⟩⟩
def J1o(Z:SP)(fr:List Nat)(N K:Nat)(M:Int)(x s h r:Nat)(par:Int)(w w':World):Prop:=∃Z',Z'.Ok fr N K (M+1)/\SameN Z Z'/\Z'.av.en=setA Z.av.en x s (some (h,r))/\(∃b,Z'.av.N=addN Z.F.N par (Z.F.next+1) b (x:Int) (s:Int))/\Z'.F.next=Z.F.next+1/\Step Z.hl Z'.hl w w'
def J2S(Z:SP)(x:Nat)(z:Int)(h:Nat)(r:Int)(er:Int):Prop:=
 (pget Z.S.l 1 x=none/\er=8)∨∃p,pget Z.S.l 1 x=some p/\((p.kind≠2/\er=10)∨(p.kind=2/\((¬(0<=z/\z<256)/\er=2)∨((0<=z/\z<256)/\((pget Z.S.l 1 h=none/\er=8) ∨
  ∃q,pget Z.S.l 1 h=some q/\((¬((0<r/\r<=15)/\(q.kind=8↔128<=z))/\er=1)∨(((0<r/\r<=15)/\(q.kind=8↔128<=z))/\Q0f Z.S.l Z.tb x z.toNat≠none/\er=7)))))))
def RootR(Z:SP)(fr:List Nat)(N K:Nat)(M:Int)(x:Nat)(z:Int)(h:Nat)(r:Int)(w:World)(er:Int)(w':World):Prop:=
 (er≠0/\J2S Z x z h r er/\Below w.heap.size w w') ∨
 ∃(s rn:Nat) (p q:Pl),z=(s:Int)/\r=(rn:Int)/\s<256/\1<=rn/\rn<=15/\pget Z.S.l 1 x=some p/\p.kind=2/\pget Z.S.l 1 h=some q/\(q.kind=8↔128<=s)/\Q0f Z.S.l Z.tb x s=none /\
  ((er=0/\J1o Z fr N K M x s h rn 0 w w')∨((er=4∨er=5)/\WhyL Z fr p.fac (x%256) s er/\∃P',Tried Z.S.P fr Z.S.l P'/\Step Z.hl (Z.setS (Z.S.setP P') Z.tb).hl w w'))
theorem Z9k{w w5:World}{Z:SP}{fr:List Nat}{N K:Nat}{M:Int}(ok:Z.Ok fr N K M)(hM:M+1<1099511627776){x s h r:Nat}{p:Pl}(hx:x<4294967296)(hp:pget Z.S.l 1 x=some p)(hk:p.kind=2)(AB:s<256)(h0:Q0f Z.S.l Z.tb x s=none){nd:Nat}(hc:Q7a Z.S.l s ⟨h,r,nd⟩)
  {S':CO} {t':TB} (T:TurnP Z.S fr N K Z.tb (p.fac:Int) (x%256) s (some ⟨h,r,nd⟩) S' t') (st:Step Z.hl (Z.setS S' (updT Z.tb (x%256) t')).hl w w5) {par:Int} (Bo:par=0∨∃m em,find Z.F.N par=some m/\Q0O Z.S.l Z.tb m=some em/\h=em.h/\r&&&em.r=r) {w6:World} (C8:Below w5.heap.size w5 w6) :
  w6.cell? ⟨Z.s,1,none⟩=some (.pointer (some ⟨Z.F.f,0,none⟩))/\Calls prog 105 #[.pointer (some ⟨Z.F.f,0,none⟩),.int .i64 par,.int .i64 x,.int .i64 s] w6 fun rv w'=>rv=.returned (.tuple #[.int .i64 (Z.F.next+1),.int .i64 0])/\J1o Z fr N K M x s h r par w w':=by
 have st6:=st.trans (st.sep.grown C8);have Aq:=ok.fpi.free ok.fo.n h0;have C7:=ok.fpi.few ok.fo.n hp AB h0;have LW:par=0∨∃e,find Z.F.N par=some e:=Bo.imp id fun⟨m,_,h,_⟩=>⟨m,h⟩
 have B3:=ok.next;refine⟨SP.c1 (Z:=Z.setS S' (updT Z.tb (x%256) t')) st6.sep,(Q8s (SP.sF (Z:=Z.setS S' (updT Z.tb (x%256) t')) st6.sep) ok.fo (par:=par) (sp:=(x:Int)) (sl:=(s:Int)) LW (by omega) (by omega) (by omega) (by omega) Aq (by show Z.F.next+1<_;omega) C7).mono ?_⟩;rintro rv w'⟨rfl,F',A,stf⟩;obtain⟨a1,a2,a3,a4⟩:=ok.added hp hk AB h0 hc T Bo A;exact⟨rfl,_,a1,a2,a3,a4,A.next,st6.trans (SP.stepF (Z:=Z.setS S' (updT Z.tb (x%256) t')) st6.sep F' A.f stf)⟩
def J2T(bh:Bool)(no:Int)(br bc bk full:Bool)(er:Int):Prop:=(bh=false/\er=2)∨(bh=true/\no=8/\er=8)∨(bh=true/\no=0/\br=false/\er=1)∨(bh=true/\no=0/\br=true/\(bc==bk)=true/\er=1)∨(bh=true/\no=0/\br=true/\(bc==bk)=false/\full=true/\er=7)
theorem Q9K{bc:Bool}{k:Int}(h:(bc==(k==8))=true):(bc=true/\k=8)∨(bc=false/\(k==8)=false/\decide (k=8)=false):=by
 by_cases hk:k=8
 ·subst hk;left;simpa using h
 ·right;cases bc <;> simp_all
theorem Q3w{bc:Bool}{k:Int}(h:(bc==(k==8))=false):(bc=true/\(k==8)=false/\decide (k=8)=false)∨(bc=false/\k=8):=by
 by_cases hk:k=8
 ·subst hk;right;cases bc <;> simp_all
 ·left;cases bc <;> simp_all
theorem Q7L{w:World}{Z:SP}{fr:List Nat}{N K:Nat}{M:Int}(hs:Sep w Z.hl)(ok:Z.Ok fr N K M){x h:Nat}(hx:x<4294967296)(hh:h<4294967296){p:Pl}(hp:pget Z.S.l 1 x=some p)(hk:p.kind=2)(z r:Int){Q:Int->World->Prop}
  {k0 a0 f0 no:Int} (hOf:∀W,Below w.heap.size w W->Calls prog 49 #[.pointer (some ⟨Z.S.c,0,none⟩),.int .u32 h,.int .i64 0] W (Told W (.tuple #[.agg #[.int .i64 k0,.int .i64 a0,.int .i64 f0],.int .i64 no])))
  (Ay:(∃er,J2T (decide (0<=z/\z<256)) no (decide (0<r/\r<=15)) (decide (z<128)) (k0==8) ((Z.tb (x%256)).at' z).isSome er/\∀W,Below w.heap.size w W->Q er W) ∨
   (decide (0<=z/\z<256)=true/\no=0/\decide (0<r/\r<=15)=true/\(decide (z<128)==(k0==8))=false/\((Z.tb (x%256)).at' z).isSome=false /\
    ∀W g,Below w.heap.size w W->TblZ Z p g W->Calls prog 98 #[.pointer (some ⟨Z.s,0,none⟩),.agg #[.pointer (some ⟨g,0,none⟩),.int .u32 x,.int .i64 (p.fac:Int)],.int .i64 z,.agg #[.int .u32 h,.int .i64 r]] W fun rv w5=>∃er:Int,rv=.returned (.int .i64 er) /\
     ((er≠0/\Q er w5)∨(er=0/\w5.cell? ⟨Z.s,1,none⟩=some (.pointer (some ⟨Z.F.f,0,none⟩))/\Calls prog 105 #[.pointer (some ⟨Z.F.f,0,none⟩),.int .i64 0,.int .i64 x,.int .i64 z] w5 fun rv w'=>(∃a b:Value,rv=.returned (.tuple #[a,b]))/\Q 0 w')))) :
  Calls prog 41 #[.pointer (some ⟨Z.s,0,none⟩),.int .u32 x,.int .i64 z,.agg #[.int .u32 h,.int .i64 r]] w fun rv w'=>∃er:Int,rv=.returned (.int .i64 er)/\Q er w':=by
 have b1:Below w.heap.size w (w.alloc (.cells #[.int .u32 h,.int .i64 r] 72)):=(Below.refl _ _).alloc (J3b _) _;have s1:=(hs.grown b1).sep;have ks:=Q0N s1 ok.core hx hp hk;have hi:=(pget_some.1 hp).1;have Ap:=(pget_some.1 hp).2.2;obtain⟨ca,cb,Cu⟩:=Q2N ((Z.tb (x%256)).at' z);have AA:(Z.tb (x%256)).at' z=if 0<=z/\z<256 then Q0f Z.S.l Z.tb x z.toNat else none:=by
  unfold TB.at';split
  ·rename_i h;rw[Q0g hp hk (by omega)]
  ·rfl
 have Eu:Hid (∀W g,Below w.heap.size w W->TblZ Z p g W->Calls prog 93 #[.agg #[.pointer (some ⟨g,0,none⟩),.int .u32 x,.int .i64 (p.fac:Int)],.int .i64 z] W (Told W (.tuple #[.agg #[.int .u32 ca,.int .i64 cb],.bool ((Z.tb (x%256)).at' z).isSome]))):=fun W g hb hg=>by
  have T:=(ok.tpi.x (p.fac:Int)).tt ok.core hi Ap hk (SP.sS (hs.grown hb).sep) hg.c;have:=Q1m T (x:Int) (p.fac:Int) z fun e AT=>by
   rw[AA] at AT;split at AT
   ·exact ok.fpi.low ok.core.inv.lok AT
   ·cases AT
  rwa [Cu] at this
 -- the worlds,one behind the other
 have Nf:Hid (∀(w2:World) (g:Nat),Below (w.alloc (.cells #[.int .u32 h,.int .i64 r] 72)).heap.size (w.alloc (.cells #[.int .u32 h,.int .i64 r] 72)) w2->TblZ Z p g w2->∀W,Below (w2.alloc (.cells #[.pointer (some ⟨g,0,none⟩),.int .u32 x,.int .i64 (p.fac:Int)] 191)).heap.size (w2.alloc (.cells #[.pointer (some ⟨g,0,none⟩),.int .u32 x,.int .i64 (p.fac:Int)] 191)) W ->
   Below w.heap.size w W/\TblZ Z p g W/\W.cell? ⟨Z.s,0,none⟩=some (.pointer (some ⟨Z.S.c,0,none⟩))/\W.cell? ⟨w.heap.size,0,none⟩=some (.int .u32 h)/\W.cell? ⟨w.heap.size,1,none⟩=some (.int .i64 r)/\W.cell? ⟨w2.heap.size,0,none⟩=some (.pointer (some ⟨g,0,none⟩))/\W.cell? ⟨w2.heap.size,1,none⟩=some (.int .u32 x)/\W.cell? ⟨w2.heap.size,2,none⟩=some (.int .i64 (p.fac:Int))):=fun w2 g Ai hg W FX=>by
  have Dv:Below w.heap.size w w2:=Q0e Ai;have s2:=(hs.grown Dv).sep;have Ar:Below w2.heap.size w2 W:=Q0e FX;have CP:Below w.heap.size w W:=Dv.trans (Ar.mono Dv.size);have h7:=((Cells.new w 72 [.int .u32 h,.int .i64 r]).same (Ai.block w.heap.size (by simp))).same (Ar.block w.heap.size (by have:=Ai.size;simp at this;omega));have h9:=(Cells.new w2 191 [.pointer (some ⟨g,0,none⟩),.int .u32 x,.int .i64 (p.fac:Int)]).same (FX.block w2.heap.size (by simp));exact⟨CP,hg.grown s2 Ar,SP.c0 (hs.grown CP).sep,h7.cell 0 _ rfl,h7.cell 1 _ rfl,h9.cell 0 _ rfl,h9.cell 1 _ rfl,h9.cell 2 _ rfl⟩
 have Gz:=Q0a hOf;have CD:=Q0a Ay;have Bd:Hid (∀W,Calls prog 92 #[.int .i64 z] W fun r w'=>r=.returned (.bool (decide (0<=z/\z<256)))/\W=w'):=fun W=>Q2Z W z
 have Bl:Hid (∀W,Calls prog 106 #[.int .i64 r] W fun r' w'=>r'=.returned (.bool (decide (0<r/\r<=15)))/\W=w'):=fun W=>Q3S W r
 have D4:Hid (∀W,Calls prog 96 #[.int .i64 z] W fun r w'=>r=.returned (.bool (decide (z<128)))/\W=w'):=fun W=>Q2M W z
 have Cw:(0:Int)<=(x:Int):=by omega
 have Dl:(x:Int)<4294967296:=by omega
 have M7:IntKind.i64.wrap (x:Int)=(x:Int):=Go.IntWalk.i64_in _ (by omega);generalize ((Z.tb (x%256)).at' z).isSome=full at *
 generalize decide (0<=z/\z<256)=bh at *
 generalize decide (0<r/\r<=15)=br at *
 generalize decide (z<128)=bc at *
 clear hs ok hx hh hp hk hi Ap Cu AA hOf Ay b1 s1;go_enter func41,ntmps41;go_wp2_with fail;refine ks.mono ?_;rintro rv w2⟨g,rfl,Ai,hg⟩;have HW:=Q0a (Nf.out w2 g Ai hg);have HS:Hid (∀W,Below (w2.alloc (.cells #[.pointer (some ⟨g,0,none⟩),.int .u32 x,.int .i64 (p.fac:Int)] 191)).heap.size (w2.alloc (.cells #[.pointer (some ⟨g,0,none⟩),.int .u32 x,.int .i64 (p.fac:Int)] 191)) W->W.cell? ⟨Z.s,0,none⟩=some (.pointer (some ⟨Z.S.c,0,none⟩))/\W.cell? ⟨w.heap.size,0,none⟩=some (.int .u32 h)):=fun W hb=>⟨(HW.out W hb).2.2.1,(HW.out W hb).2.2.2.1⟩
 have HK:Hid (∀W,Below (w2.alloc (.cells #[.pointer (some ⟨g,0,none⟩),.int .u32 x,.int .i64 (p.fac:Int)] 191)).heap.size (w2.alloc (.cells #[.pointer (some ⟨g,0,none⟩),.int .u32 x,.int .i64 (p.fac:Int)] 191)) W->Calls prog 49 #[.pointer (some ⟨Z.S.c,0,none⟩),.int .u32 h,.int .i64 0] W fun r w4=>r=.returned (.tuple #[.agg #[.int .i64 k0,.int .i64 a0,.int .i64 f0],.int .i64 no])/\Below (w2.alloc (.cells #[.pointer (some ⟨g,0,none⟩),.int .u32 x,.int .i64 (p.fac:Int)] 191)).heap.size (w2.alloc (.cells #[.pointer (some ⟨g,0,none⟩),.int .u32 x,.int .i64 (p.fac:Int)] 191)) w4):=fun W hb=>(Gz.out W (HW.out W hb).1).mono fun r w4 h=>⟨h.1,hb.trans (h.2.mono hb.size)⟩
 have Cy:Hid (∀W,Below (w2.alloc (.cells #[.pointer (some ⟨g,0,none⟩),.int .u32 x,.int .i64 (p.fac:Int)] 191)).heap.size (w2.alloc (.cells #[.pointer (some ⟨g,0,none⟩),.int .u32 x,.int .i64 (p.fac:Int)] 191)) W->∀o,Below (w2.alloc (.cells #[.pointer (some ⟨g,0,none⟩),.int .u32 x,.int .i64 (p.fac:Int)] 191)).heap.size (w2.alloc (.cells #[.pointer (some ⟨g,0,none⟩),.int .u32 x,.int .i64 (p.fac:Int)] 191)) (W.alloc o)):=fun W hb o=>hb.alloc hb.size o
 obtain⟨-,-,c0,q0,-,-,-,-⟩:=HW.out _ (Below.refl _ _);have S7:Hid (∀W,Below (w2.alloc (.cells #[.pointer (some ⟨g,0,none⟩),.int .u32 x,.int .i64 (p.fac:Int)] 191)).heap.size (w2.alloc (.cells #[.pointer (some ⟨g,0,none⟩),.int .u32 x,.int .i64 (p.fac:Int)] 191)) W->Calls prog 49 #[.pointer (some ⟨Z.S.c,0,none⟩),.int .u32 h,.int .i64 0] W (Told W (.tuple #[.agg #[.int .i64 k0,.int .i64 a0,.int .i64 f0],.int .i64 no]))):=fun W hb=>Gz.out W (HW.out W hb).1
 clear Ai hg Nf ks Gz;go_upto_region 4 with fail
 go_cut [11,12] from 16 to 34 (fun o nn wc=>∃b:Nat,o=.pointer (some ⟨b,0,none⟩)/\nn=.int .i64 no/\Below (w2.alloc (.cells #[.pointer (some ⟨g,0,none⟩),.int .u32 x,.int .i64 (p.fac:Int)] 191)).heap.size (w2.alloc (.cells #[.pointer (some ⟨g,0,none⟩),.int .u32 x,.int .i64 (p.fac:Int)] 191)) wc/\b<wc.heap.size/\wc.cell? ⟨b,0,none⟩=some (.int .i64 k0))
 case first =>
  generalize (w2.alloc (.cells #[.pointer (some ⟨g,0,none⟩),.int .u32 x,.int .i64 (p.fac:Int)] 191))=W3 at *
  clear HW Eu CD Bd Bl D4;have cD:W3.drew.cell? ⟨Z.s,0,none⟩=some (.pointer (some ⟨Z.S.c,0,none⟩)):=c0;have qD:W3.drew.cell? ⟨w.heap.size,0,none⟩=some (.int .u32 h):=q0;have LE:Hid (Calls prog 49 #[.pointer (some ⟨Z.S.c,0,none⟩),.int .u32 h,.int .i64 0] (W3.alloc (.cells #[.int .i64 0,.int .i64 0,.int .i64 0] 54)).drew fun r w4=>r=.returned (.tuple #[.agg #[.int .i64 k0,.int .i64 a0,.int .i64 f0],.int .i64 no])/\Below W3.heap.size W3 w4/\Cells w4 W3.heap.size 54 [.int .i64 0,.int .i64 0,.int .i64 0]):=
   (S7.out _ (Cy.out _ (Below.refl _ _).drew _)).mono fun r w4 h=>⟨h.1,((Cy.out _ (Below.refl _ _).drew _)).trans (h.2.mono (by simp)),(Cells.new W3 54 [.int .i64 0,.int .i64 0,.int .i64 0]).same (h.2.block _ (by simp))⟩
  have HD:Hid (Below W3.heap.size W3 W3.drew):=(Below.refl _ _).drew
  go_region_held3 (fun w'=>w'.cell? ⟨Z.s,0,none⟩=some (.pointer (some ⟨Z.S.c,0,none⟩))/\w'.cell? ⟨w.heap.size,0,none⟩=some (.int .u32 h))
   (first|exact⟨c0,q0⟩|exact⟨cD,qD⟩|exact HS.out _ (Cy.out _ HD.out _)|exact HS.out _ Av.out|exact HS.out _ (Cy.out _ Av.out _)|exact HS.out _ (Av.out.setCell (by simp) _)|exact HS.out _ ((Av.out.setCell (by simp) _).setCell (by simp) _)|exact HS.out _ (((Av.out.setCell (by simp) _).setCell (by simp) _).setCell (by simp) _))
   (first|(go_at_call 49;refine LE.out.mono ?_;rintro rv w4⟨rfl,A9,BS⟩;have Av:=Q0a A9;have z0:=BS.cell 0 _ rfl;have z1:=BS.cell 1 _ rfl;have z2:=BS.cell 2 _ rfl;have y0:=BS.free 0;have y1:=BS.free 1;have y2:=BS.free 2;have N8:=Q0a BS;clear A9 BS)|(go_at_call 49;refine(HK.out _ (by first|exact HD.out|exact Cy.out _ HD.out _)).mono ?_;rintro rv w4⟨rfl,A9⟩;have Av:=Q0a A9;clear A9))
  ·go_wp2_with fail;go_meet;exact⟨_,rfl,rfl,Cy.out _ Av.out _,by simp,(Cells.new w4 54 [.int .i64 k0,.int .i64 a0,.int .i64 f0]).cell 0 _ rfl⟩
  ·go_wp2_with fail;go_meet;exact⟨_,rfl,rfl,((Av.out.setCell (by simp) _).setCell (by simp) _).setCell (by simp) _,by simpa using N8.out.lt,(((N8.out.set 0 (.int .i64 k0)).set 1 (.int .i64 a0)).set 2 (.int .i64 f0)).cell 0 _ rfl⟩
 obtain⟨bo,rfl,rfl,A9,Ab,Bz⟩:=hcut;have h5:=HW.out wc A9;obtain⟨AD,Sz,-,-,-,u0,u1,u2⟩:=h5;have kc:=Eu.out _ g AD Sz;have QI:=Q0a Bz;have Av:=Q0a A9;have SI:Hid (∀W,Below wc.heap.size wc W->(Below w.heap.size w W/\TblZ Z p g W/\W.cell? ⟨Z.s,0,none⟩=some (.pointer (some ⟨Z.S.c,0,none⟩))/\W.cell? ⟨w.heap.size,0,none⟩=some (.int .u32 h)/\W.cell? ⟨w.heap.size,1,none⟩=some (.int .i64 r)/\W.cell? ⟨w2.heap.size,0,none⟩=some (.pointer (some ⟨g,0,none⟩))/\W.cell? ⟨w2.heap.size,1,none⟩=some (.int .u32 x)/\W.cell? ⟨w2.heap.size,2,none⟩=some (.int .i64 (p.fac:Int)))/\W.cell? ⟨bo,0,none⟩=some (.int .i64 k0)):=fun W hb=>⟨HW.out W (Av.out.trans (hb.mono Av.out.size)),(hb.cell (p:=⟨bo,0,none⟩) Ab).trans QI.out⟩
 clear A9 AD Sz Ab Bz Eu HW HS HK Cy S7 c0 q0;go_wp2_with fail;refine kc.mono ?_;rintro rv w6⟨rfl,C8⟩;go_wp2_with fail;generalize hW7:(w6.alloc (.cells #[.int .u32 ca,.int .i64 cb] 72))=w7;have GX:Below wc.heap.size wc w7:=by rw[<- hW7];exact C8.alloc C8.size _
 have CQ:Hid (∀n,(Below w.heap.size w (w7.drewN n)/\TblZ Z p g (w7.drewN n)/\(w7.drewN n).cell? ⟨Z.s,0,none⟩=some (.pointer (some ⟨Z.S.c,0,none⟩))/\(w7.drewN n).cell? ⟨w.heap.size,0,none⟩=some (.int .u32 h)/\(w7.drewN n).cell? ⟨w.heap.size,1,none⟩=some (.int .i64 r)/\(w7.drewN n).cell? ⟨w2.heap.size,0,none⟩=some (.pointer (some ⟨g,0,none⟩))/\(w7.drewN n).cell? ⟨w2.heap.size,1,none⟩=some (.int .u32 x)/\(w7.drewN n).cell? ⟨w2.heap.size,2,none⟩=some (.int .i64 (p.fac:Int)))/\(w7.drewN n).cell? ⟨bo,0,none⟩=some (.int .i64 k0)):=fun n=>SI.out _ (Q0Y GX n)
 have Lj:Hid (Below w.heap.size w w7):=(CQ.out 0).1.1;have q1:w7.cell? ⟨w.heap.size,1,none⟩=some (.int .i64 r):=(CQ.out 0).1.2.2.2.2.1;have k8:w7.cell? ⟨bo,0,none⟩=some (.int .i64 k0):=(CQ.out 0).2;have CY:Hid (∀n,Calls prog 106 #[.int .i64 r] (w7.drewN n) fun e w''=>e=.returned (.bool br)/\∃m,w''=w7.drewN m):=fun n=>(Bl.out _).mono fun e w' h=>⟨h.1,n,h.2.symm⟩
 have Lm:Hid (∀n,Calls prog 96 #[.int .i64 z] (w7.drewN n) fun e w''=>e=.returned (.bool bc)/\∃m,w''=w7.drewN m):=fun n=>(D4.out _).mono fun e w' h=>⟨h.1,n,h.2.symm⟩
 have kh:=Bd.out w7;clear hW7 GX C8 kc u0 u1 u2 SI Bl D4 Bd Av QI;rcases CD.out with ⟨er,hT,hQ⟩|⟨rfl,rfl,rfl,AJ,rfl,hl⟩
 ·have HQ:=Q0a hQ;clear hQ CD;rcases hT with ⟨rfl,rfl⟩|⟨rfl,rfl,rfl⟩|⟨rfl,rfl,rfl,rfl⟩|⟨rfl,rfl,rfl,AJ,rfl⟩|⟨rfl,rfl,rfl,AJ,rfl,rfl⟩
  ·refine kh.mono ?_;rintro rv w'⟨rfl,rfl⟩;go_wp2_with fail
   (try go_ret);exact⟨_,rfl,HQ.out _ Lj.out⟩
  ·refine kh.mono ?_;rintro rv w'⟨rfl,rfl⟩;go_wp2_with fail
   (try go_ret);exact⟨_,rfl,HQ.out _ Lj.out⟩
  ·refine kh.mono ?_;rintro rv w'⟨rfl,rfl⟩;go_wp2_with fail
   go_quiet ((go_at_call 106;exact CY.out _))
   go_wp2_with fail
   (try go_ret);exact⟨_,rfl,HQ.out _ (CQ.out _).1.1⟩
  ·have hc:=Q9K AJ;clear AJ;rcases hc with ⟨rfl,rfl⟩|⟨rfl,No,Lv⟩
   ·refine kh.mono ?_;rintro rv w'⟨rfl,rfl⟩;go_wp2_with fail
    go_quiet (first|(go_at_call 106;exact CY.out _)|(go_at_call 96;exact Lm.out _))
    go_wp2_with fail
    (try go_ret);exact⟨_,rfl,HQ.out _ (CQ.out _).1.1⟩
   ·refine kh.mono ?_;rintro rv w'⟨rfl,rfl⟩;go_wp2_with fail
    go_quiet (first|(go_at_call 106;exact CY.out _)|(go_at_call 96;exact Lm.out _))
    go_wp2_with fail
    (try go_ret);exact⟨_,rfl,HQ.out _ (CQ.out _).1.1⟩
  ·have hc:=Q3w AJ;clear AJ;rcases hc with ⟨rfl,No,Lv⟩|⟨rfl,rfl⟩
   ·refine kh.mono ?_;rintro rv w'⟨rfl,rfl⟩;go_wp2_with fail
    go_quiet (first|(go_at_call 106;exact CY.out _)|(go_at_call 96;exact Lm.out _))
    go_wp2_with fail
    (try go_ret);exact⟨_,rfl,HQ.out _ (CQ.out _).1.1⟩
   ·refine kh.mono ?_;rintro rv w'⟨rfl,rfl⟩;go_wp2_with fail
    go_quiet (first|(go_at_call 106;exact CY.out _)|(go_at_call 96;exact Lm.out _))
    go_wp2_with fail
    (try go_ret);exact⟨_,rfl,HQ.out _ (CQ.out _).1.1⟩
 ·have DS:=Q0a (fun n=>hl (w7.drewN n) g (CQ.out n).1.1 (CQ.out n).1.2.1);obtain⟨⟨-,-,-,q0,-,v0,v1,v2⟩,-⟩:=CQ.out 0;have q0:w7.cell? ⟨w.heap.size,0,none⟩=some (.int .u32 h):=q0;have v0:w7.cell? ⟨w2.heap.size,0,none⟩=some (.pointer (some ⟨g,0,none⟩)):=v0;have v1:w7.cell? ⟨w2.heap.size,1,none⟩=some (.int .u32 x):=v1;have v2:w7.cell? ⟨w2.heap.size,2,none⟩=some (.int .i64 (p.fac:Int)):=v2;clear hl CD;have hc:=Q3w AJ;clear AJ;rcases hc with ⟨rfl,No,Lv⟩|⟨rfl,rfl⟩
  ·refine kh.mono ?_;rintro rv w'⟨rfl,rfl⟩;go_wp2_with fail
   go_quiet (first|(go_at_call 106;exact CY.out _)|(go_at_call 96;exact Lm.out _))
   go_wp2_with fail;refine(DS.out _).mono ?_;rintro rv w5⟨er,rfl,⟨Aa,hq⟩|⟨rfl,US,B7⟩⟩
   ·have B0:(er != 0)=true:=by simp[Aa]
    have HQ:=Q0a hq;clear hq;go_wp2_with fail
    (try go_ret);exact⟨_,rfl,HQ.out⟩
   ·have Dp:=Q0a B7;clear B7;go_wp2_with fail;refine Dp.out.mono ?_;rintro rv w8⟨⟨ra,rb,rfl⟩,hq⟩;have HQ:=Q0a hq;clear hq;go_wp2_with fail
    (try go_ret);exact⟨_,rfl,HQ.out⟩
  ·refine kh.mono ?_;rintro rv w'⟨rfl,rfl⟩;go_wp2_with fail
   go_quiet (first|(go_at_call 106;exact CY.out _)|(go_at_call 96;exact Lm.out _))
   go_wp2_with fail;refine(DS.out _).mono ?_;rintro rv w5⟨er,rfl,⟨Aa,hq⟩|⟨rfl,US,B7⟩⟩
   ·have B0:(er != 0)=true:=by simp[Aa]
    have HQ:=Q0a hq;clear hq;go_wp2_with fail
    (try go_ret);exact⟨_,rfl,HQ.out⟩
   ·have Dp:=Q0a B7;clear B7;go_wp2_with fail;refine Dp.out.mono ?_;rintro rv w8⟨⟨ra,rb,rfl⟩,hq⟩;have HQ:=Q0a hq;clear hq;go_wp2_with fail
    (try go_ret);exact⟨_,rfl,HQ.out⟩
theorem Q9L{l:List Pl}(lok:LOk l){s h:Nat}{q:Pl}(hq:pget l s h=some q):h<4294967295:=by
 have h1:=pget_some.1 hq;have h2:=lok.2 q (Q0z hq);have:nm (h%256) q=h:=h1.2.1;unfold nm at this;omega
theorem Q7M{w:World}{s x h:Nat}{z r e:Int}(he:e≠0)(hS:Calls prog 90 #[.pointer (some ⟨s,0,none⟩),.int .u32 x] (w.alloc (.cells #[.int .u32 h,.int .i64 r] 72)) (Told (w.alloc (.cells #[.int .u32 h,.int .i64 r] 72)) (.tuple #[.agg #[.pointer none,.int .u32 0,.int .i64 0],.int .i64 e]))) :
  Calls prog 41 #[.pointer (some ⟨s,0,none⟩),.int .u32 x,.int .i64 z,.agg #[.int .u32 h,.int .i64 r]] w (Told w (.int .i64 e)):=by
 have FV:(e != 0)=true:=by simpa using he
 have HB:Hid (∀w1,Below (w.alloc (.cells #[.int .u32 h,.int .i64 r] 72)).heap.size (w.alloc (.cells #[.int .u32 h,.int .i64 r] 72)) w1->∀o,Below w.heap.size w (w1.alloc o)):=fun w1 hb o=>(Q0e hb).alloc (Q0e hb).size o
 go_enter func41,ntmps41;go_wp2_with fail;refine hS.mono ?_;rintro rv w1⟨rfl,hb⟩;have HW:=Q0a (HB.out w1 hb);clear hb HB hS;go_wp2_with fail
 (try go_ret);exact⟨rfl,HW.out _⟩
theorem Q6J{w:World}{Z:SP}{fr:List Nat}{N K:Nat}{M:Int}(hs:Sep w Z.hl)(ok:Z.Ok fr N K M)(hM:M+1<1099511627776){x h:Nat}(hx:x<4294967296)(hh:h<4294967296)(z r:Int) :
  Calls prog 41 #[.pointer (some ⟨Z.s,0,none⟩),.int .u32 x,.int .i64 z,.agg #[.int .u32 h,.int .i64 r]] w fun rv w'=>∃er:Int,rv=.returned (.int .i64 er)/\RootR Z fr N K M x z h r w er w':=by
 have s1:=(hs.grown ((Below.refl w.heap.size w).alloc (J3b _) (.cells #[.int .u32 h,.int .i64 r] 72))).sep;cases hp:pget Z.S.l 1 x with
 | none =>
  refine(Q7M (e:=8) (by decide) (Q0I s1 ok.core hx 8 (.inl ⟨hp,rfl⟩))).mono ?_;rintro rv w'⟨rfl,hb⟩;exact⟨_,rfl,.inl ⟨by decide,.inl ⟨hp,rfl⟩,hb⟩⟩
 | some p =>
  by_cases hk:p.kind=2
  case neg =>
   refine(Q7M (e:=10) (by decide) (Q0I s1 ok.core hx 10 (.inr ⟨p,hp,hk,rfl⟩))).mono ?_;rintro rv w'⟨rfl,hb⟩;exact⟨_,rfl,.inl ⟨by decide,.inr ⟨p,hp,.inl ⟨hk,rfl⟩⟩,hb⟩⟩
  clear s1;cases hq:pget Z.S.l 1 h with
  | none =>
   refine Q7L hs ok hx hh hp hk z r (k0:=0) (a0:=0) (f0:=0) (no:=8) (fun W hb=>Q4M (SP.sS (hs.grown hb).sep) ok.core.inv.lok hh 0 hq) (.inl ?_);by_cases hz:0<=z/\z<256
   ·exact⟨8,.inr (.inl ⟨by simpa using hz,rfl,rfl⟩),fun W hb=>.inl ⟨by decide,.inr ⟨p,hp,.inr ⟨hk,.inr ⟨hz,.inl ⟨hq,rfl⟩⟩⟩⟩,hb⟩⟩
   ·exact⟨2,.inl ⟨decide_eq_false hz,rfl⟩,fun W hb=>.inl ⟨by decide,.inr ⟨p,hp,.inr ⟨hk,.inl ⟨hz,rfl⟩⟩⟩,hb⟩⟩
  | some q =>
   refine Q7L hs ok hx hh hp hk z r (k0:=(q.kind:Int)) (a0:=(q.at_:Int)) (f0:=(q.fac:Int)) (no:=0) (fun W hb=>Q2X (SP.sS (hs.grown hb).sep) ok.core.inv.lok hh 0 hq (.inl rfl)) ?_;by_cases hz:0<=z/\z<256
   case neg=>exact .inl ⟨2,.inl ⟨decide_eq_false hz,rfl⟩,fun W hb=>.inl ⟨by decide,.inr ⟨p,hp,.inr ⟨hk,.inl ⟨hz,rfl⟩⟩⟩,hb⟩⟩
   have Ie:decide (0<=z/\z<256)=true:=decide_eq_true hz;by_cases hr:0<r/\r<=15
   case neg=>exact .inl ⟨1,.inr (.inr (.inl ⟨Ie,rfl,decide_eq_false hr,rfl⟩)),fun W hb=>.inl ⟨by decide,.inr ⟨p,hp,.inr ⟨hk,.inr ⟨hz,.inr ⟨q,hq,.inl ⟨fun hc=>hr hc.1,rfl⟩⟩⟩⟩⟩,hb⟩⟩
   have FE:decide (0<r/\r<=15)=true:=decide_eq_true hr;by_cases hm:(q.kind=8↔128<=z)
   case neg =>
    refine .inl ⟨1,.inr (.inr (.inr (.inl ⟨Ie,rfl,FE,?_,rfl⟩))),fun W hb=>.inl ⟨by decide,.inr ⟨p,hp,.inr ⟨hk,.inr ⟨hz,.inr ⟨q,hq,.inl ⟨fun hc=>hm hc.2,rfl⟩⟩⟩⟩⟩,hb⟩⟩;by_cases h8:q.kind=8
    ·have h9:z<128:=by have:¬128<=z:=fun h=>hm ⟨fun _=>h,fun _=>h8⟩;omega
     simp[h8,h9]
    ·have h9:¬z<128:=by intro h;exact hm ⟨fun h'=>absurd h' h8,fun h'=>by omega⟩
     have Oa:¬(q.kind:Int)=8:=by omega
     simp[h9,Oa]
   have EL:(decide (z<128)==((q.kind:Int)==8))=false:=by
    by_cases h8:q.kind=8
    ·have h9:¬z<128:=by have:=hm.1 h8;omega
     simp[h8,h9]
    ·have h9:z<128:=by have:¬128<=z:=fun h=>h8 (hm.2 h);omega
     have Oa:¬(q.kind:Int)=8:=by omega
     simp[h9,Oa]
   obtain⟨s,rfl⟩:∃s:Nat,z=(s:Int):=⟨z.toNat,by omega⟩
   obtain⟨rn,rfl⟩:∃rn:Nat,r=(rn:Int):=⟨r.toNat,by omega⟩
   have AB:s<256:=by omega
   have AA:(Z.tb (x%256)).at' (s:Int)=Q0f Z.S.l Z.tb x s:=by
    unfold TB.at';rw[if_pos hz,Q0g hp hk (by omega)];rfl
   cases h0:Q0f Z.S.l Z.tb x s with
   | some e0 =>
    refine .inl ⟨7,.inr (.inr (.inr (.inr ⟨Ie,rfl,FE,EL,by rw[AA,h0];rfl,rfl⟩))),fun W hb=>.inl ⟨by decide,.inr ⟨p,hp,.inr ⟨hk,.inr ⟨hz,.inr ⟨q,hq,.inr ⟨⟨hr,hm⟩,?_,rfl⟩⟩⟩⟩⟩,hb⟩⟩;rw[J4h,h0];exact Option.some_ne_none _
   | none =>
    refine .inr ⟨Ie,rfl,FE,EL,by rw[AA,h0];rfl,fun W g hb hg=>?_⟩;have hi:=(pget_some.1 hp).1;have Ap:=(pget_some.1 hp).2.2;have Dj:(Z.tb (x%256)).en s=none:=by rw[<- Q0g hp hk AB];exact h0
    have Cf:(q.kind=8↔128<=s):=by rw[hm];omega
    have A8:h<4294967295:=Q9L ok.core.inv.lok hq;refine(Q8t (hs.grown hb).sep ok.core ok.tpi (x:=x) hi Ap hk AB Dj A8 (by omega:rn<16) hg).mono ?_;rintro rv w5⟨er,rfl,⟨rfl,nd,S',t',T,st⟩|⟨he,FC,P',tr,st⟩⟩
    ·have A4:Q7a Z.S.l s ⟨h,rn,nd⟩:=⟨⟨q,hq,Cf⟩,by dsimp only;omega⟩
     obtain⟨c1,k⟩:=Z9k ok hM hx hp hk AB h0 A4 T ((hs.grown hb).trans st) (par:=0) (.inl rfl) (Below.refl _ _);refine⟨0,rfl,.inr ⟨rfl,c1,k.mono ?_⟩⟩;rintro rv w'⟨rfl,PZ⟩;exact⟨⟨_,_,rfl⟩,.inr ⟨s,rn,p,q,rfl,rfl,AB,by omega,by omega,hp,hk,hq,Cf,h0,.inl ⟨rfl,PZ⟩⟩⟩
    ·exact⟨er,rfl,.inl ⟨by omega,.inr ⟨s,rn,p,q,rfl,rfl,AB,by omega,by omega,hp,hk,hq,Cf,h0,.inr ⟨he,FC,P',tr,(hs.grown hb).trans st⟩⟩⟩⟩
end Go.Proofs.YtfidemmgofcnmaaGreatDoor
