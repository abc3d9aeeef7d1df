/- SpaceFails returns true at every input. No condition. Part of its proof. -/
import Derived.Test.YtfidemmgofcnmaaGreatDoorSf14
set_option maxHeartbeats 4000000
set_option maxRecDepth 100000
set_option linter.unusedVariables false
namespace Go.Proofs.YtfidemmgofcnmaaGreatDoor
open Go.RowKit Go.Proofs.Tryz
structure FO where
 f:Nat
 m:Nat
 o:Nat
 N:List (En Nd)
 next:Int
 kr:Int->RV
def Nd.cells(n:Nd)(rv:RV):List Value:=[.int .i64 n.sp,.int .i64 n.sl,.int .i64 n.par,lvOf rv n.ks.length]
def ndH(kr:Int->RV)(e:En Nd):HL:=(e.b,isC 285 (e.q.cells (kr e.id)))::rowH (kr e.id) 3 1 (e.q.ks.map encI)
def okv(N:List (En Nd)):SKV:=N.map fun e=>((e.q.sp,e.q.sl),.int .i64 e.id)
def isMS(kv:SKV):Obj->Prop:=isM (kv.map fun q=>(Q2x q.1,q.2))
def FO.head(q:FO):Nat×(Obj->Prop):=(q.f,isC 283 [.map (some q.m),.map (some q.o),.int .i64 q.next])
def FO.hl(q:FO):HL:=q.head::(q.m,isMI (kvs q.N))::(q.o,isMS (okv q.N))::q.N.flatMap (ndH q.kr)
structure FO.Ok(q:FO):Prop where
 n:NOk q.N q.next
 lim:q.next<1099511627776
 rv:∀e∈q.N,rvOk (q.kr e.id) e.q.ks.length
 few:q.N.length<=65536
theorem Z0Q:WideMaps.KeyLaw prog 173:=deep_law (m:=2) (by omega) (by kernel_rfl) (by kernel_rfl) (by kernel_rfl)
theorem Q3u{p:Int×Int}(h1:0<=p.1)(h2:p.1<9223372036854775808)(h3:0<=p.2)(h4:p.2<9223372036854775808):Q1Q prog 173 p:=by
 have hu:=underlying173;have hi:=underlying3;have hk:prog.keyType 173=true:=by kernel_rfl
 have hc:prog.cellsOf 173=2:=by kernel_rfl
 have CM:prog.cellsOf 3=1:=by kernel_rfl
 obtain⟨m,hm⟩:∃m,prog.types.size=m+1:=⟨prog.types.size-1,by
  have:0<prog.types.size:=of_decide_eq_true (by kernel_rfl);omega⟩
 have e1:IntKind.i64.min = -9223372036854775808:=rfl;have e2:IntKind.i64.max=9223372036854775807:=rfl;have wa:(Lit.int .i64 p.1).wf=true:=by
  simp only[Lit.wf,J3x,decide_eq_true_eq,e1,e2];omega
 have wb:(Lit.int .i64 p.2).wf=true:=by
  simp only[Lit.wf,J3x,decide_eq_true_eq,e1,e2];omega
 unfold Q1Q Q2x keyOf;simp only[hu];rw[if_pos (by simp[hk,Value.formed,hu,hc]),hm];unfold Program.keyLits;simp only[hu,Value.cells];rw[if_pos (by simp[hc])];exact⟨_,by simp[Program.keyLits,hi,wa,wb,CM];rfl⟩
section
variable {w:World} {q:FO}
theorem FO.c(h:Sep w q.hl):Cells w q.f 283 [.map (some q.m),.map (some q.o),.int .i64 q.next]:=h.cells (by simp[FO.hl,FO.head])
theorem FO.c0(h:Sep w q.hl):w.cell? ⟨q.f,0,none⟩=some (.map (some q.m)):=(FO.c h).cell 0 _ rfl
theorem FO.c1(h:Sep w q.hl):w.cell? ⟨q.f,1,none⟩=some (.map (some q.o)):=(FO.c h).cell 1 _ rfl
theorem FO.c2(h:Sep w q.hl):w.cell? ⟨q.f,2,none⟩=some (.int .i64 q.next):=(FO.c h).cell 2 _ rfl
theorem FO.map(h:Sep w q.hl):Q0x w q.m (kvs q.N):=h.map (by simp[FO.hl,isMI])
theorem FO.omap(h:Sep w q.hl):Q3q w q.o (okv q.N):=h.map (by simp[FO.hl,isMS])
theorem FO.nd(h:Sep w q.hl){id:Int}{e:En Nd}(hf:find q.N id=some e):Cells w e.b 285 (e.q.cells (q.kr e.id)):=
 h.cells (by
  simp only[FO.hl,J3g];exact .inr (.inr (.inr (J3C.2 ⟨e,(Q0b hf).1,by simp[ndH]⟩))))
theorem Z2j(ok:q.Ok):(okv q.N).Pairwise (fun a b=>a.1≠b.1):=by
 unfold okv;rw[J3H];exact ok.n.spots
theorem Z2k(ok:q.Ok):∀p∈okv q.N,Q1Q prog 173 p.1:=fun p hp=>by
 obtain⟨e,he,rfl⟩:=J3h.1 hp;have:=ok.n.sm e he;exact Q3u (by show 0<=e.q.sp;omega) (by show e.q.sp<_;omega) (by show 0<=e.q.sl;omega) (by show e.q.sl<_;omega)
end
def ownN(N:List (En Nd))(sp sl:Int):Int:=match N.find? fun e=>decide ((e.q.sp,e.q.sl)=(sp,sl)) with
 | some e=>e.id
 | none=>0
theorem Z6z(N:List (En Nd))(sp sl:Int):(Q3X (okv N) (sp,sl)).getD (.int .i64 0)=.int .i64 (ownN N sp sl):=by
 unfold Q3X okv ownN;rw[List.find?_map];cases h:List.find? ((fun q=>decide (q.1=(sp,sl))) ∘ fun(e:En Nd)=>((e.q.sp,e.q.sl),Value.int .i64 e.id)) N with
 | none =>
  have:N.find? (fun e=>decide ((e.q.sp,e.q.sl)=(sp,sl)))=none:=h;rw[this];rfl
 | some e =>
  have:N.find? (fun e=>decide ((e.q.sp,e.q.sl)=(sp,sl)))=some e:=h;rw[this];rfl
theorem Q1R{N:List (En Nd)}{next:Int}(ok:NOk N next){e:En Nd}(he:e∈N):ownN N e.q.sp e.q.sl=e.id:=by
 unfold ownN;cases h:N.find? fun x=>decide ((x.q.sp,x.q.sl)=(e.q.sp,e.q.sl)) with
 | none =>
  have:=J4V.1 h e he;simp at this
 | some x =>
  have hx:=J7q h;have hp:=J7r h;simp only[decide_eq_true_eq] at hp;simp only[Prod.mk.injEq] at hp;rw[Q4i ok hx he hp.1 hp.2]
theorem Q1y{N:List (En Nd)}{next:Int}(ok:NOk N next){sp sl:Int}:ownN N sp sl=0↔∀e∈N,(e.q.sp,e.q.sl)≠(sp,sl):=by
 unfold ownN;cases h:N.find? fun x=>decide ((x.q.sp,x.q.sl)=(sp,sl)) with
 | none =>
  simp only[true_iff];intro e he hc;have:=J4V.1 h e he;exact this (by simpa using hc)
 | some x =>
  have hx:=J7q h;have hp:=J7r h;simp only[decide_eq_true_eq] at hp;have:=ok.rng x hx
  constructor
  ·intro h0;have Dj:x.id=0:=h0;omega
  ·intro AZ;exact absurd hp (AZ x hx)
section
variable {w:World} {q:FO}
theorem Q9t(w:World):(zeroValue 278).run prog w=.ok (.pointer none) w:=by kernel_rfl
theorem FO.look_some(h:Sep w q.hl){id:Int}{e:En Nd}(hf:find q.N id=some e) :
  (Instr.lookup 280 (.map (some q.m)) (.int .i64 id) false).run prog w=.ok (.pointer (some ⟨e.b,0,none⟩)) w:=by
 rw[Q1k (FO.map h) id false (.pointer none) underlying280 underlying3 (Q9t w)];simp[Q5C,hf,ptr]
theorem FO.look_none(h:Sep w q.hl){id:Int}(hf:find q.N id=none) :
  (Instr.lookup 280 (.map (some q.m)) (.int .i64 id) false).run prog w=.ok (.pointer none) w:=by
 rw[Q1k (FO.map h) id false (.pointer none) underlying280 underlying3 (Q9t w)];simp[Q5C,hf]
theorem FO.look_own(h:Sep w q.hl)(ok:q.Ok){sp sl:Int}(hp:Q1Q prog 173 (sp,sl)) :
  (Instr.lookup 281 (.map (some q.o)) (.agg #[.int .i64 sp,.int .i64 sl]) false).run prog w=.ok (.int .i64 (ownN q.N sp sl)) w:=by
 have:=Q6l (FO.omap h) Z0Q (Z2j ok) (Z2k ok) hp false (.int .i64 0) underlying281 (Z1M w);rw[Z6z] at this;exact this
theorem Q2Y(h:Sep w q.hl){id:Int}{e:En Nd}(hf:find q.N id=some e) :
  Calls prog 180 #[.pointer (some ⟨q.f,0,none⟩),.int .i64 id] w fun r w'=>r=.returned (.pointer (some ⟨e.b,0,none⟩))/\w=w':=by
 have h0:=FO.c0 h;have hl:=FO.look_some h hf;clear h hf;go_enter func180,ntmps180
 go_wp2
 go_ret;exact⟨rfl,rfl⟩
theorem Q4N(h:Sep w q.hl){id:Int}(hf:find q.N id=none) :
  Calls prog 180 #[.pointer (some ⟨q.f,0,none⟩),.int .i64 id] w fun r w'=>r=.returned (.pointer none)/\w=w':=by
 have h0:=FO.c0 h;have hl:=FO.look_none h hf;clear h hf;go_enter func180,ntmps180
 go_wp2
 go_ret;exact⟨rfl,rfl⟩
theorem Q4O(h:Sep w q.hl)(ok:q.Ok){sp sl:Int}(hp:Q1Q prog 173 (sp,sl)) :
  Calls prog 161 #[.pointer (some ⟨q.f,0,none⟩),.int .i64 sp,.int .i64 sl] w fun r w'=>r=.returned (.int .i64 (ownN q.N sp sl))/\w=w':=by
 have h1:=FO.c1 h;have hl:=FO.look_own h ok hp;clear h hp ok;generalize ownN q.N sp sl=z at *
 go_enter func161,ntmps161
 go_wp2
 go_ret;exact⟨rfl,rfl⟩
theorem FO.nd0(h:Sep w q.hl){id:Int}{e:En Nd}(hf:find q.N id=some e):w.cell? ⟨e.b,0,none⟩=some (.int .i64 e.q.sp)/\w.cell? ⟨e.b,1,none⟩=some (.int .i64 e.q.sl)/\w.cell? ⟨e.b,2,none⟩=some (.int .i64 e.q.par)/\w.cell? ⟨e.b,3,none⟩=some (lvOf (q.kr e.id) e.q.ks.length):=by
 have k:=FO.nd h hf;exact⟨k.cell 0 _ rfl,k.cell 1 _ rfl,k.cell 2 _ rfl,k.cell 3 _ rfl⟩
theorem Q9u(h:Sep w q.hl){id:Int}{e:En Nd}(hf:find q.N id=some e) :
  Calls prog 160 #[.pointer (some ⟨q.f,0,none⟩),.int .i64 id] w fun r w'=>r=.returned (.int .i64 e.q.par)/\w=w':=by
 have k:=Q2Y h hf;obtain⟨c0,c1,c2,-⟩:=FO.nd0 h hf;clear h hf;go_enter func160,ntmps160;go_wp2_with (go_at_call 180;refine k.mono ?_;rintro e w'⟨rfl,rfl⟩);go_ret;exact⟨rfl,rfl⟩
theorem Q9v(h:Sep w q.hl){id:Int}(hf:find q.N id=none) :
  Calls prog 160 #[.pointer (some ⟨q.f,0,none⟩),.int .i64 id] w fun r w'=>r=.returned (.int .i64 0)/\w=w':=by
 have k:=Q4N h hf;clear h hf;go_enter func160,ntmps160;go_wp2_with (go_at_call 180;refine k.mono ?_;rintro e w'⟨rfl,rfl⟩);go_ret;exact⟨rfl,rfl⟩
theorem Q6y(h:Sep w q.hl){id:Int}(hf:find q.N id=none) :
  Calls prog 159 #[.pointer (some ⟨q.f,0,none⟩),.int .i64 id] w fun r w'=>r=.returned (.tuple #[.int .i64 0,.int .i64 0,.bool false])/\w=w':=by
 have k:=Q4N h hf;clear h hf;go_enter func159,ntmps159;go_wp2_with (go_at_call 180;refine k.mono ?_;rintro e w'⟨rfl,rfl⟩)
 go_ret3
 exact⟨rfl,rfl⟩
theorem Q6z(h:Sep w q.hl){id:Int}{e:En Nd}(hf:find q.N id=some e) :
  Calls prog 159 #[.pointer (some ⟨q.f,0,none⟩),.int .i64 id] w fun r w'=>r=.returned (.tuple #[.int .i64 e.q.sp,.int .i64 e.q.sl,.bool true])/\Below w.heap.size w w':=by
 have k:=Q2Y h hf;obtain⟨c0,c1,c2,-⟩:=FO.nd0 h hf;have hb:∀m,Below w.heap.size w (w.drewN m):=fun m=>by first|exact(Below.refl _ _).drewN|exact Below.drewN (Below.refl _ _)|exact⟨rfl,rfl,rfl,J3b _,fun _ _=>rfl⟩
 clear h hf;go_enter func159,ntmps159;go_wp2_with (go_at_call 180;refine k.mono ?_;rintro e w'⟨rfl,rfl⟩)
 go_quiet (fail)
 go_wp2
 go_ret3
 exact⟨rfl,by first|exact hb _|exact(Below.refl _ _).drew⟩
end
theorem Z8Y(f:En Nd->Nd)(N:List (En Nd)):kvs (mapE f N)=kvs N:=by
 unfold kvs mapE;rw[J5k];rfl
theorem Z8Z{f:En Nd->Nd}{N:List (En Nd)}(h:∀c∈N,(f c).sp=c.q.sp/\(f c).sl=c.q.sl):okv (mapE f N)=okv N:=by
 unfold okv mapE;rw[J5k];exact J5l fun c hc=>by simp[(h c hc).1,(h c hc).2]
def FO.setN(q:FO)(id:Int)(n:Nd)(rv:RV):FO:={q with N:=mapE (fun c=>if c.id=id then n else c.q) q.N,kr:=fun j=>if j=id then rv else q.kr j}
theorem FO.split{q:FO}(Ae:q.N.Pairwise (fun a b=>a.id≠b.id)){id:Int}{e:En Nd}(hf:find q.N id=some e) :
  ∃R:HL,q.hl.Perm (((e.b,isC 285 (e.q.cells (q.kr id)))::rowH (q.kr id) 3 1 (e.q.ks.map encI))++R)/\∀(n:Nd) (rv:RV),n.sp=e.q.sp->n.sl=e.q.sl ->
   (q.setN id n rv).hl.Perm (((e.b,isC 285 (n.cells rv))::rowH rv 3 1 (n.ks.map encI))++R):=by
 obtain⟨he,hid⟩:=Q0b hf;obtain⟨A,B,hN⟩:=J7i he;have hA:∀c∈A,c.id≠id:=fun c hc=>by
  rw[hN,J3P] at Ae;have:=Ae.2.2 c hc e (by simp);rw[hid] at this;exact this
 have hB:∀c∈B,c.id≠id:=fun c hc=>by
  rw[hN,J3P,J3D] at Ae;have:=Ae.2.1.1 c hc;rw[hid] at this;exact this.symm
 have mid:∀(X Y:HL) (h1 h2 h3:Nat×(Obj->Prop)) (Z:HL),(h1::h2::h3::(X++(Z++Y))).Perm (Z++(h1::h2::h3::(X++Y))):=fun X Y h1 h2 h3 Z=>by
  have e1:h1::h2::h3::(X++(Z++Y))=(h1::h2::h3::X)++(Z++Y):=by simp
  have e2:Z++(h1::h2::h3::(X++Y))=Z++((h1::h2::h3::X)++Y):=by simp
  rw[e1,e2,<- J4c,<- J4c];exact J5O Y J5P
 refine⟨q.head::(q.m,isMI (kvs q.N))::(q.o,isMS (okv q.N))::(A.flatMap (ndH q.kr)++B.flatMap (ndH q.kr)),?_,fun n rv h1 h2=>?_⟩
 ·unfold FO.hl;have:q.N.flatMap (ndH q.kr)=A.flatMap (ndH q.kr)++(ndH q.kr e++B.flatMap (ndH q.kr)):=by
   conv=>lhs;rw[hN]
   simp
  rw[this];refine(mid _ _ _ _ _ _).trans ?_;unfold ndH;rw[hid]
 ·have e1:kvs (q.setN id n rv).N=kvs q.N:=Z8Y _ _;have e2:okv (q.setN id n rv).N=okv q.N:=Z8Z fun c hc=>by
   by_cases h:c.id=id
   ·rw[if_pos h];have:c=e:=by
     have:=Q0k Ae hc;rw[h,hf] at this;cases this;rfl
    subst this;exact⟨h1,h2⟩
   ·rw[if_neg h];exact⟨rfl,rfl⟩
  have e3:∀L:List (En Nd),(∀c∈L,c.id≠id)->(mapE (fun c=>if c.id=id then n else c.q) L).flatMap (ndH (q.setN id n rv).kr)=L.flatMap (ndH q.kr):=fun L hL=>by
   rw[Z0H (fun c hc=>if_neg (hL c hc))];unfold List.flatMap;congr 1;exact J5l fun c hc=>by
    unfold ndH FO.setN;simp only[if_neg (hL c hc)]
  have e4:(q.setN id n rv).N.flatMap (ndH (q.setN id n rv).kr)=A.flatMap (ndH q.kr)++(((e.b,isC 285 (n.cells rv))::rowH rv 3 1 (n.ks.map encI))++B.flatMap (ndH q.kr)):=by
   have:(q.setN id n rv).N=mapE (fun c=>if c.id=id then n else c.q) A++({e with q:=n}::mapE (fun c=>if c.id=id then n else c.q) B):=by
    show mapE _ q.N=_
    conv=>lhs;rw[hN]
    unfold mapE;have PW:(fun c:En Nd=>if c.id=id then n else c.q) e=n:=if_pos hid;rw[J6G,J3e,PW]
   rw[this,J3K,J3z,e3 A hA,e3 B hB];congr 2;unfold ndH FO.setN;simp only[hid,if_true]
  unfold FO.hl;rw[e1,e2,e4];exact mid _ _ _ _ _ _
def FO.app(q:FO)(b:Nat)(n:Nd):FO:={q with N:=q.N++[⟨q.next+1,b,n⟩],next:=q.next+1,kr:=fun j=>if j=q.next+1 then none else q.kr j}
theorem FO.new_none{q:FO}(ok:q.Ok):find q.N (q.next+1)=none:=by
 cases hf:find q.N (q.next+1) with
 | none=>rfl
 | some e =>
  obtain⟨e1,e2⟩:=Q0b hf;have:=ok.n.rng e e1;omega
theorem FO.appSteps{w:World}{q:FO}(h:Sep w q.hl)(ok:q.Ok){sp sl par:Int}(hp:Q1Q prog 173 (sp,sl))(Aq:ownN q.N sp sl=0)(W1 W2:World)(hW1:W1=(w.setCell ⟨q.f,2,none⟩ (.int .i64 (q.next+1))).drew)(hW2:W2=W1.alloc (.cells #[.int .i64 sp,.int .i64 sl,.int .i64 par,.slice none 0 0] 285)) :
  ∃w3 w4,(Instr.mapUpdate 280 (.map (some q.m)) (.int .i64 (q.next+1)) (.pointer (some ⟨w.heap.size,0,none⟩))).run prog W2=.ok () w3 /\
   (Instr.mapUpdate 281 (.map (some q.o)) (.agg #[.int .i64 sp,.int .i64 sl]) (.int .i64 (q.next+1))).run prog w3.drew=.ok () w4 /\
   Step q.hl (q.app w.heap.size ⟨sp,sl,par,[]⟩).hl w w4 /\
   w3.cell? ⟨q.f,0,none⟩=some (.map (some q.m))/\w3.cell? ⟨q.f,1,none⟩=some (.map (some q.o))/\w3.cell? ⟨q.f,2,none⟩=some (.int .i64 (q.next+1)) /\
   W1.cell? ⟨q.f,0,none⟩=some (.map (some q.m))/\W1.cell? ⟨q.f,2,none⟩=some (.int .i64 (q.next+1)) /\
   W2.cell? ⟨q.f,0,none⟩=some (.map (some q.m))/\W2.cell? ⟨q.f,2,none⟩=some (.int .i64 (q.next+1)) /\
   (∀b i v,b∉keys q.hl->b<w.heap.size->w.cell? ⟨b,i,none⟩=some v->w3.cell? ⟨b,i,none⟩=some v/\w4.cell? ⟨b,i,none⟩=some v):=by
 have s1:Step q.hl ((q.f,isC 283 [.map (some q.m),.map (some q.o),.int .i64 (q.next+1)])::(q.m,isMI (kvs q.N))::(q.o,isMS (okv q.N))::q.N.flatMap (ndH q.kr)) w (w.setCell ⟨q.f,2,none⟩ (.int .i64 (q.next+1))):=Sep.set (A:=[]) (B:=(q.m,isMI (kvs q.N))::(q.o,isMS (okv q.N))::q.N.flatMap (ndH q.kr)) h 2 (.int .i64 (q.next+1));have s1d:=s1.drew;rw[<- hW1] at s1d;have Be:W1.heap.size=w.heap.size:=by rw[hW1];simp[World.setCell,World.drew]
 have s2:=s1d.sep.new 285 [.int .i64 sp,.int .i64 sl,.int .i64 par,.slice none 0 0];rw[Be] at s2;have s2':Step _ _ W1 W2:=hW2 ▸ s2;have m2:Q0x W2 q.m (kvs q.N):=s2'.sep.map (by simp[isMI]);obtain⟨w3,r3,m3,g3⟩:=Q1D m2 (q.next+1) (.pointer (some ⟨w.heap.size,0,none⟩)) underlying280 underlying3;obtain⟨es,Ah,ho,hr⟩:=m3;have s3:=Sep.turn (A:=[(w.heap.size,isC 285 [.int .i64 sp,.int .i64 sl,.int .i64 par,.slice none 0 0]),(q.f,isC 283 [.map (some q.m),.map (some q.o),.int .i64 (q.next+1)])]) (B:=(q.o,isMS (okv q.N))::q.N.flatMap (ndH q.kr)) (q':=isMI (put (kvs q.N) (q.next+1) (ptr w.heap.size))) s2'.sep g3 ⟨_,ho,es,Ah,rfl,hr⟩
 have s3d:=s3.drew;have m3':Q3q w3.drew q.o (okv q.N):=s3d.sep.map (by simp[isMS]);have Em:Q3X (okv q.N) (sp,sl)=none:=by
  cases hl:Q3X (okv q.N) (sp,sl) with
  | none=>rfl
  | some v =>
   exfalso;unfold Q3X okv at hl;obtain⟨a,ha,_⟩:=J7a.1 hl;have h1:=J7q ha;have h2:=J7r ha;obtain⟨c,hc,rfl⟩:=J3h.1 h1;exact(Q1y ok.n).1 Aq c hc (by simpa using h2)
 obtain⟨w4,r4,m4,g4⟩:=Q4F m3' Z0Q (Z2j ok) (Z2k ok) hp (.int .i64 (q.next+1)) Em underlying281;obtain⟨es4,EW,Ov,Lc⟩:=m4;have s4:=Sep.turn (A:=[(w.heap.size,isC 285 [.int .i64 sp,.int .i64 sl,.int .i64 par,.slice none 0 0]),(q.f,isC 283 [.map (some q.m),.map (some q.o),.int .i64 (q.next+1)]),(q.m,isMI (put (kvs q.N) (q.next+1) (ptr w.heap.size)))]) (B:=q.N.flatMap (ndH q.kr)) (q':=isMS (okv q.N++[((sp,sl),.int .i64 (q.next+1))])) s3d.sep g4 ⟨_,Ov,es4,EW,rfl,Lc⟩;have t4:=((s1d.trans s2').trans s3d).trans s4;have t3:=(s1d.trans s2').trans s3;refine⟨w3,w4,r3,r4,?_,?_,?_,?_,?_,?_,?_,?_,fun b i v hb Ab hc=>?_⟩
 ·refine t4.perm (J6w _) ?_;have e1:kvs (q.N++[⟨q.next+1,w.heap.size,⟨sp,sl,par,[]⟩⟩])=put (kvs q.N) (q.next+1) (ptr w.heap.size):=(Z4N q.N (q.next+1) w.heap.size _ (FO.new_none ok)).symm;have e2:okv (q.N++[⟨q.next+1,w.heap.size,⟨sp,sl,par,[]⟩⟩])=okv q.N++[((sp,sl),.int .i64 (q.next+1))]:=by
   unfold okv;rw[J6G];rfl
  have e3:(q.N++[(⟨q.next+1,w.heap.size,⟨sp,sl,par,[]⟩⟩:En Nd)]).flatMap (ndH (q.app w.heap.size ⟨sp,sl,par,[]⟩).kr)=q.N.flatMap (ndH q.kr)++[(w.heap.size,isC 285 [.int .i64 sp,.int .i64 sl,.int .i64 par,.slice none 0 0])]:=by
   have a1:q.N.flatMap (ndH (q.app w.heap.size ⟨sp,sl,par,[]⟩).kr)=q.N.flatMap (ndH q.kr):=by
    rw[J7j,J7j];refine congrArg List.flatten (J5l fun c hc=>?_);have:=ok.n.rng c hc;have hk:(q.app w.heap.size ⟨sp,sl,par,[]⟩).kr c.id=q.kr c.id:=if_neg (by omega);unfold ndH;rw[hk]
   have a2:[(⟨q.next+1,w.heap.size,⟨sp,sl,par,[]⟩⟩:En Nd)].flatMap (ndH (q.app w.heap.size ⟨sp,sl,par,[]⟩).kr)=[(w.heap.size,isC 285 [.int .i64 sp,.int .i64 sl,.int .i64 par,.slice none 0 0])]:=by
    have hk:(q.app w.heap.size ⟨sp,sl,par,[]⟩).kr (q.next+1)=none:=if_pos rfl;rw[J3z,J7f,J5i];unfold ndH;rw[hk];rfl
   rw[J3K,a1,a2]
  unfold FO.hl FO.head;show List.Perm _ ((q.f,_)::(q.m,isMI (kvs (q.N++[_])))::(q.o,isMS (okv (q.N++[_])))::(q.N++[_]).flatMap _);rw[e1,e2,e3];exact(J6J _ ((q.f,isC 283 [.map (some q.m),.map (some q.o),.int .i64 (q.next+1)])::(q.m,isMI (put (kvs q.N) (q.next+1) (ptr w.heap.size)))::(q.o,isMS (okv q.N++[((sp,sl),.int .i64 (q.next+1))]))::q.N.flatMap (ndH q.kr))).symm
 ·exact(s3.sep.cells (b:=q.f) (T:=283) (cs:=[.map (some q.m),.map (some q.o),.int .i64 (q.next+1)]) (by simp)).cell 0 _ rfl
 ·exact(s3.sep.cells (b:=q.f) (T:=283) (cs:=[.map (some q.m),.map (some q.o),.int .i64 (q.next+1)]) (by simp)).cell 1 _ rfl
 ·exact(s3.sep.cells (b:=q.f) (T:=283) (cs:=[.map (some q.m),.map (some q.o),.int .i64 (q.next+1)]) (by simp)).cell 2 _ rfl
 ·exact(s1d.sep.cells (b:=q.f) (T:=283) (cs:=[.map (some q.m),.map (some q.o),.int .i64 (q.next+1)]) (by simp)).cell 0 _ rfl
 ·exact(s1d.sep.cells (b:=q.f) (T:=283) (cs:=[.map (some q.m),.map (some q.o),.int .i64 (q.next+1)]) (by simp)).cell 2 _ rfl
 ·exact(s2'.sep.cells (b:=q.f) (T:=283) (cs:=[.map (some q.m),.map (some q.o),.int .i64 (q.next+1)]) (by simp)).cell 0 _ rfl
 ·exact(s2'.sep.cells (b:=q.f) (T:=283) (cs:=[.map (some q.m),.map (some q.o),.int .i64 (q.next+1)]) (by simp)).cell 2 _ rfl
 ·exact⟨(World.cell?_of_block (t3.chg.block b Ab hb)).trans hc,(World.cell?_of_block (t4.chg.block b Ab hb)).trans hc⟩
theorem Z9a{w:World}{H:HL}{rv:RV}{l:List Int}(h:Sep w (rowH rv 3 1 (l.map encI)++H))(Bg:rvOk rv l.length)(hl:l.length<=65536)(x:Int)(ty:TypeId) :
  ∃rv' w',(Builtin.append_ #[38,38] ty #[lvOf rv l.length,.slice (some ⟨w.heap.size,0,none⟩) 1 1]).run prog (w.alloc (.cells #[.int .i64 x] 3))=.ok (lvOf rv' (l.length+1)) w'/\rvOk rv' (l.length+1)/\Step (rowH rv 3 1 (l.map encI)++H) (rowH rv' 3 1 ((l++[x]).map encI)++H) w w':=by
 obtain⟨i0,hi,Bx,AX,AU⟩:=info_parts Q8q;have ha:=h.alloc (.cells #[.int .i64 x] 3);have Af:=Q4t ha.left Bg (by rw[J4L,J4i]);obtain⟨v',w',hr,q1,q2,_,q4⟩:=run_append_own_at (P:=prog) (w.alloc (.cells #[.int .i64 x] 3)) 0 38 ty 3 i0 (.int .i64 0) 1 8 underlying38 hi Bx AX AU rfl (by decide) (lvOf rv l.length) l.length (l.map encI) Af ⟨w.heap.size,0,none⟩ 1 1 [.int .i64 x] rfl (by
  intro j u hj;have:=(Cells.new w 3 [.int .i64 x]).cell j u hj;have e:(⟨w.heap.size,0,none⟩:Addr).add j=⟨w.heap.size,j,none⟩:=by unfold Addr.add;split <;> simp_all
  rw[e];exact this) (fun u hu=>by rw[J5j.1 hu];rfl) (by unfold maxLen;omega) (by omega) (J5e _)
 obtain⟨rv',rfl,e2,e3⟩:=Q1p (A:=[]) (B:=H) (by simpa using ha) q1 q2 q4;refine⟨rv',w',hr,e2,?_⟩;rw[J6G];have e4:Step (rowH rv 3 1 (l.map encI)++H) (rowH rv' 3 1 (l.map encI++[encI x])++H) (w.alloc (.cells #[.int .i64 x] 3)) w':=by simpa using e3
 exact e4.from_alloc
theorem FO.pushK{w:World}{q:FO}(h:Sep w q.hl)(Ae:q.N.Pairwise (fun a b=>a.id≠b.id)){id:Int}{e:En Nd}(hf:find q.N id=some e)(A6:rvOk (q.kr id) e.q.ks.length)(hl:e.q.ks.length<=65536)(x:Int)(ty:TypeId) :
  ∃rv' w',(Builtin.append_ #[38,38] ty #[lvOf (q.kr id) e.q.ks.length,.slice (some ⟨w.heap.size,0,none⟩) 1 1]).run prog (w.alloc (.cells #[.int .i64 x] 3))=.ok (lvOf rv' (e.q.ks.length+1)) w'/\rvOk rv' (e.q.ks.length+1) /\
   w'.cell? ⟨e.b,3,none⟩=some (lvOf (q.kr id) e.q.ks.length)/\(∀i,w'.frozen? ⟨e.b,i,none⟩=false)/\Step q.hl (q.setN id {e.q with ks:=e.q.ks++[x]} rv').hl w (w'.setCell ⟨e.b,3,none⟩ (lvOf rv' (e.q.ks.length+1))):=by
 obtain⟨R,p1,p2⟩:=FO.split Ae hf;have pm:∀(Z:HL) (a:Nat×(Obj->Prop)),((a::Z)++R).Perm (Z++(a::R)):=fun Z a=>J6H.symm
 have h':Sep w (rowH (q.kr id) 3 1 (e.q.ks.map encI)++((e.b,isC 285 (e.q.cells (q.kr id)))::R)):=h.perm (p1.trans (pm _ _));obtain⟨rv',w',r1,r2,st⟩:=Z9a h' A6 hl x ty;have hc:=st.sep.cells (b:=e.b) (T:=285) (cs:=e.q.cells (q.kr id)) (by simp);have s2:=Sep.set (A:=rowH rv' 3 1 ((e.q.ks++[x]).map encI)) (B:=R) st.sep 3 (lvOf rv' (e.q.ks.length+1));refine⟨rv',w',r1,r2,hc.cell 3 _ rfl,hc.free,(st.trans s2).perm ((p1.trans (pm _ _)).symm) ?_⟩;have AM:(e.q.cells (q.kr id)).set 3 (lvOf rv' (e.q.ks.length+1))=Nd.cells {e.q with ks:=e.q.ks++[x]} rv':=by
  unfold Nd.cells;simp
 rw[AM];exact((p2 {e.q with ks:=e.q.ks++[x]} rv' rfl rfl).trans (pm _ _)).symm
theorem NOk.kids_few{N:List (En Nd)}{next:Int}(ok:NOk N next){e:En Nd}(he:e∈N):e.q.ks.length<=N.length:=by
 have:=J7s (ok.nd e he) (l₂:=N.map En.id) (fun k hk=>by
  obtain⟨c,hc,_⟩:=ok.kids e he k hk;obtain⟨c1,c2⟩:=Q0b hc;exact J3h.2 ⟨c,c1,c2⟩)
 rwa [J4L] at this
theorem Z6A{w:World}{q:FO}(h:Sep w q.hl)(ok:q.Ok){sp sl:Int}(hp:Q1Q prog 173 (sp,sl))(Aq:ownN q.N sp sl=0) :
  Calls prog 105 #[.pointer (some ⟨q.f,0,none⟩),.int .i64 0,.int .i64 sp,.int .i64 sl] w fun r w'=>r=.returned (.tuple #[.int .i64 (q.next+1),.int .i64 0])/\Step q.hl (q.app (w.heap.size+1) ⟨sp,sl,0,[]⟩).hl w w':=by
 have ka:=Q4N h ok.n.zero;have h0:=(h.alloc (.cells #[.int .i64 sp,.int .i64 sl] 173)).drew;have hl:=FO.look_own h0 ok hp;rw[Aq] at hl;have c0:=FO.c0 h;have c1:=FO.c1 h;have c2:=FO.c2 h;have d0:=FO.c0 h0;have d1:=FO.c1 h0;have d2:=FO.c2 h0;have hb:=Cells.new w 173 [.int .i64 sp,.int .i64 sl];obtain⟨w3,w4,r3,r4,st,f0,f1,f2,g0,g2,n0,n2,keep⟩:=FO.appSteps (par:=0) h0 ok hp Aq _ _ rfl rfl;have Be:(w.alloc (.cells #[.int .i64 sp,.int .i64 sl] 173)).drew.heap.size=w.heap.size+1:=by simp[World.drew]
 have Fq:w.heap.size∉keys q.hl:=fun hk=>by have:=h.lt hk;omega
 have b0:(w.alloc (.cells #[.int .i64 sp,.int .i64 sl] 173)).drew.cell? ⟨w.heap.size,0,none⟩=some (.int .i64 sp):=hb.cell 0 _ rfl;have b1:(w.alloc (.cells #[.int .i64 sp,.int .i64 sl] 173)).drew.cell? ⟨w.heap.size,1,none⟩=some (.int .i64 sl):=hb.cell 1 _ rfl;have e0:=keep w.heap.size 0 _ Fq (by omega) b0;have e1:=keep w.heap.size 1 _ Fq (by omega) b1;rw[Be] at r3 st;have HS:Hid (Step q.hl (q.app (w.heap.size+1) ⟨sp,sl,0,[]⟩).hl w w4):=st.from_drew.from_alloc;have Ax:∀i,(w.alloc (.cells #[.int .i64 sp,.int .i64 sl] 173)).drew.frozen? ⟨q.f,i,none⟩=false:=(FO.c h0).free;have B3:q.next+1<1099511627777:=by have:=ok.lim;omega
 have M8:=ok.n.next0;have f2':=FO.c2 st.sep;have f2'':w4.cell? ⟨q.f,2,none⟩=some (.int .i64 (q.next+1)):=f2';obtain⟨e00,_⟩:=e0;obtain⟨e10,_⟩:=e1;have x0:(w.alloc (.cells #[.int .i64 sp,.int .i64 sl] 173)).cell? ⟨q.f,0,none⟩=some (.map (some q.m)):=d0;have x1:(w.alloc (.cells #[.int .i64 sp,.int .i64 sl] 173)).cell? ⟨q.f,1,none⟩=some (.map (some q.o)):=d1;have x2:(w.alloc (.cells #[.int .i64 sp,.int .i64 sl] 173)).cell? ⟨q.f,2,none⟩=some (.int .i64 q.next):=d2;have xb0:(w.alloc (.cells #[.int .i64 sp,.int .i64 sl] 173)).cell? ⟨w.heap.size,0,none⟩=some (.int .i64 sp):=b0;have xb1:(w.alloc (.cells #[.int .i64 sp,.int .i64 sl] 173)).cell? ⟨w.heap.size,1,none⟩=some (.int .i64 sl):=b1
 have xf:∀i,(w.alloc (.cells #[.int .i64 sp,.int .i64 sl] 173)).frozen? ⟨q.f,i,none⟩=false:=Ax;have y0:((w.alloc (.cells #[.int .i64 sp,.int .i64 sl] 173)).setCell ⟨q.f,2,none⟩ (.int .i64 (q.next+1))).cell? ⟨q.f,0,none⟩=some (.map (some q.m)):=g0;have y2:((w.alloc (.cells #[.int .i64 sp,.int .i64 sl] 173)).setCell ⟨q.f,2,none⟩ (.int .i64 (q.next+1))).cell? ⟨q.f,2,none⟩=some (.int .i64 (q.next+1)):=g2;have z0:(((w.alloc (.cells #[.int .i64 sp,.int .i64 sl] 173)).setCell ⟨q.f,2,none⟩ (.int .i64 (q.next+1))).alloc (.cells #[.int .i64 sp,.int .i64 sl,.int .i64 0,.slice none 0 0] 285)).cell? ⟨q.f,0,none⟩=some (.map (some q.m)):=n0
 have z2:(((w.alloc (.cells #[.int .i64 sp,.int .i64 sl] 173)).setCell ⟨q.f,2,none⟩ (.int .i64 (q.next+1))).alloc (.cells #[.int .i64 sp,.int .i64 sl,.int .i64 0,.slice none 0 0] 285)).cell? ⟨q.f,2,none⟩=some (.int .i64 (q.next+1)):=n2;have r3x:(Instr.mapUpdate 280 (.map (some q.m)) (.int .i64 (q.next+1)) (.pointer (some ⟨w.heap.size+1,0,none⟩))).run prog (((w.alloc (.cells #[.int .i64 sp,.int .i64 sl] 173)).setCell ⟨q.f,2,none⟩ (.int .i64 (q.next+1))).alloc (.cells #[.int .i64 sp,.int .i64 sl,.int .i64 0,.slice none 0 0] 285)).drew.drew=.ok () w3:=r3;clear r3 g0 g2 n0 n2 b0 b1 d0 d1 d2 Ax;clear keep st f2' h0 hb h ok hp Aq Fq
 go_enter func105,ntmps105;go_wp2_with fail;refine ka.mono ?_;rintro e w'⟨rfl,rfl⟩;go_wp2_with fail;go_region;go_wp2_with fail;go_region;go_wp2_with fail;go_region;go_wp2_with fail
 (try go_ret2);exact⟨rfl,HS.out⟩
theorem Z9b{w:World}{q:FO}(h:Sep w q.hl)(ok:q.Ok){par:Int}{e:En Nd}(hf:find q.N par=some e){sp sl:Int}(hp:Q1Q prog 173 (sp,sl))(Aq:ownN q.N sp sl=0) :
  Calls prog 105 #[.pointer (some ⟨q.f,0,none⟩),.int .i64 par,.int .i64 sp,.int .i64 sl] w fun r w'=>r=.returned (.tuple #[.int .i64 (q.next+1),.int .i64 0])/\∃rv',rvOk rv' (e.q.ks.length+1)/\Step q.hl ((q.app (w.heap.size+1) ⟨sp,sl,par,[]⟩).setN par {e.q with ks:=e.q.ks++[q.next+1]} rv').hl w w':=by
 have ka:=Q2Y h hf;have h0:=(h.alloc (.cells #[.int .i64 sp,.int .i64 sl] 173)).drew;have hl:=FO.look_own h0 ok hp;rw[Aq] at hl;have c0:=FO.c0 h;have c1:=FO.c1 h;have c2:=FO.c2 h;have d0:=FO.c0 h0;have d1:=FO.c1 h0;have d2:=FO.c2 h0;have hb:=Cells.new w 173 [.int .i64 sp,.int .i64 sl];obtain⟨w3,w4,r3,r4,st,f0,f1,f2,g0,g2,n0,n2,keep⟩:=FO.appSteps (par:=par) h0 ok hp Aq _ _ rfl rfl;have Be:(w.alloc (.cells #[.int .i64 sp,.int .i64 sl] 173)).drew.heap.size=w.heap.size+1:=by simp[World.drew]
 have Fq:w.heap.size∉keys q.hl:=fun hk=>by have:=h.lt hk;omega
 have b0:(w.alloc (.cells #[.int .i64 sp,.int .i64 sl] 173)).drew.cell? ⟨w.heap.size,0,none⟩=some (.int .i64 sp):=hb.cell 0 _ rfl;have b1:(w.alloc (.cells #[.int .i64 sp,.int .i64 sl] 173)).drew.cell? ⟨w.heap.size,1,none⟩=some (.int .i64 sl):=hb.cell 1 _ rfl;have e0:=keep w.heap.size 0 _ Fq (by omega) b0;have e1:=keep w.heap.size 1 _ Fq (by omega) b1;rw[Be] at r3 st;obtain⟨Ca,Fd⟩:=Q0b hf;have IR:=ok.n.rng e Ca;have FR:find (q.app (w.heap.size+1) ⟨sp,sl,par,[]⟩).N par=some e:=by
  show find (q.N++[_]) par=_;rw[Q8p,hf];rfl
 have CG:(q.app (w.heap.size+1) ⟨sp,sl,par,[]⟩).N.Pairwise (fun a b=>a.id≠b.id):=by
  show(q.N++[_]).Pairwise _;rw[J3P];refine⟨ok.n.ids,by simp,fun x hx y hy=>?_⟩;rw[J5j] at hy;subst hy;have:=ok.n.rng x hx;show x.id≠q.next+1;omega
 have Di:(q.app (w.heap.size+1) ⟨sp,sl,par,[]⟩).kr par=q.kr par:=if_neg (by omega);have A6:=ok.rv e Ca;rw[Fd] at A6;have C7:=ok.n.kids_few Ca;have G0:=ok.few;obtain⟨rv',w5,r5,CB,k3,kf,st5⟩:=FO.pushK st.sep.drew CG FR (by rw[Di];exact A6) (by omega) (q.next+1) 38;rw[Di] at r5 k3;have r5x:(Builtin.append_ #[38,38] 38 #[lvOf (q.kr par) e.q.ks.length,.slice (some ⟨w4.heap.size,0,none⟩) 1 1]).run prog (w4.alloc (.cells #[.int .i64 (q.next+1)] 3)).drew=.ok (lvOf rv' (e.q.ks.length+1)) w5:=r5;clear r5;have m3:=(FO.nd st.sep FR).cell 3 (lvOf ((q.app (w.heap.size+1) ⟨sp,sl,par,[]⟩).kr e.id) e.q.ks.length) rfl
 rw[Fd,Di] at m3;have m2:w4.cell? ⟨q.f,2,none⟩=some (.int .i64 (q.next+1)):=FO.c2 st.sep;have sa:=st.sep.alloc (.cells #[.int .i64 (q.next+1)] 3);have v3:=(FO.nd sa FR).cell 3 (lvOf ((q.app (w.heap.size+1) ⟨sp,sl,par,[]⟩).kr e.id) e.q.ks.length) rfl;rw[Fd,Di] at v3;have v2:(w4.alloc (.cells #[.int .i64 (q.next+1)] 3)).cell? ⟨q.f,2,none⟩=some (.int .i64 (q.next+1)):=FO.c2 sa;have u2:(w5.setCell ⟨e.b,3,none⟩ (lvOf rv' (e.q.ks.length+1))).cell? ⟨q.f,2,none⟩=some (.int .i64 (q.next+1)):=FO.c2 st5.sep;have HS:Hid (∃rz,rvOk rz (e.q.ks.length+1)/\Step q.hl ((q.app (w.heap.size+1) ⟨sp,sl,par,[]⟩).setN par {e.q with ks:=e.q.ks++[q.next+1]} rz).hl w (w5.setCell ⟨e.b,3,none⟩ (lvOf rv' (e.q.ks.length+1)))):=⟨rv',CB,(st.trans st5.from_drew).from_drew.from_alloc⟩
 have Ax:∀i,(w.alloc (.cells #[.int .i64 sp,.int .i64 sl] 173)).drew.frozen? ⟨q.f,i,none⟩=false:=(FO.c h0).free;have B3:q.next+1<1099511627777:=by have:=ok.lim;omega
 have M8:=ok.n.next0;obtain⟨e00,_⟩:=e0;obtain⟨e10,_⟩:=e1;have x0:(w.alloc (.cells #[.int .i64 sp,.int .i64 sl] 173)).cell? ⟨q.f,0,none⟩=some (.map (some q.m)):=d0;have x1:(w.alloc (.cells #[.int .i64 sp,.int .i64 sl] 173)).cell? ⟨q.f,1,none⟩=some (.map (some q.o)):=d1;have x2:(w.alloc (.cells #[.int .i64 sp,.int .i64 sl] 173)).cell? ⟨q.f,2,none⟩=some (.int .i64 q.next):=d2;have xb0:(w.alloc (.cells #[.int .i64 sp,.int .i64 sl] 173)).cell? ⟨w.heap.size,0,none⟩=some (.int .i64 sp):=b0;have xb1:(w.alloc (.cells #[.int .i64 sp,.int .i64 sl] 173)).cell? ⟨w.heap.size,1,none⟩=some (.int .i64 sl):=b1
 have xf:∀i,(w.alloc (.cells #[.int .i64 sp,.int .i64 sl] 173)).frozen? ⟨q.f,i,none⟩=false:=Ax;have y0:((w.alloc (.cells #[.int .i64 sp,.int .i64 sl] 173)).setCell ⟨q.f,2,none⟩ (.int .i64 (q.next+1))).cell? ⟨q.f,0,none⟩=some (.map (some q.m)):=g0;have y2:((w.alloc (.cells #[.int .i64 sp,.int .i64 sl] 173)).setCell ⟨q.f,2,none⟩ (.int .i64 (q.next+1))).cell? ⟨q.f,2,none⟩=some (.int .i64 (q.next+1)):=g2;have z0:(((w.alloc (.cells #[.int .i64 sp,.int .i64 sl] 173)).setCell ⟨q.f,2,none⟩ (.int .i64 (q.next+1))).alloc (.cells #[.int .i64 sp,.int .i64 sl,.int .i64 par,.slice none 0 0] 285)).cell? ⟨q.f,0,none⟩=some (.map (some q.m)):=n0
 have z2:(((w.alloc (.cells #[.int .i64 sp,.int .i64 sl] 173)).setCell ⟨q.f,2,none⟩ (.int .i64 (q.next+1))).alloc (.cells #[.int .i64 sp,.int .i64 sl,.int .i64 par,.slice none 0 0] 285)).cell? ⟨q.f,2,none⟩=some (.int .i64 (q.next+1)):=n2;have r3x:(Instr.mapUpdate 280 (.map (some q.m)) (.int .i64 (q.next+1)) (.pointer (some ⟨w.heap.size+1,0,none⟩))).run prog (((w.alloc (.cells #[.int .i64 sp,.int .i64 sl] 173)).setCell ⟨q.f,2,none⟩ (.int .i64 (q.next+1))).alloc (.cells #[.int .i64 sp,.int .i64 sl,.int .i64 par,.slice none 0 0] 285)).drew.drew=.ok () w3:=r3;clear r3 g0 g2 n0 n2 b0 b1 d0 d1 d2 Ax
 obtain⟨va,vk,vc,hV⟩:∃a k c,lvOf rv' (e.q.ks.length+1)=.slice a k c:=by
  cases rv' with
  | none=>exact⟨_,_,_,rfl⟩
  | some p=>exact⟨_,_,_,rfl⟩
 rw[hV] at r5x u2 HS;clear hV;generalize lvOf (q.kr par) e.q.ks.length=V at *
 have HR:=Q0a r5x;clear r5x;clear keep st sa st5 FR CG Di A6 C7 G0 Ca Fd IR hf h0 hb h ok hp Aq Fq;go_enter func105,ntmps105;go_wp2_with fail;refine ka.mono ?_;rintro e w'⟨rfl,rfl⟩;go_wp2_with fail;go_region;go_wp2_with fail;go_region;go_wp2_with fail;go_region;go_wp2_with fail
 go_region_law (refine Q0E rfl _ _ 38 38 rfl _ _ (by simp[Act.eval]) (by simp[Act.eval]) HR.out ?_)
 all_goals
  go_wp2_with fail
  (try go_ret2);exact⟨rfl,HS.out⟩
theorem Z6B{q:FO}(ok:q.Ok)(b:Nat)(sp sl:Int):(q.app b ⟨sp,sl,0,[]⟩).N=addN q.N 0 (q.next+1) b sp sl:=by
 unfold addN;rw[Z0H fun c hc=>if_neg (by have:=ok.n.rng c hc;omega)];rfl
theorem Z9c{q:FO}(ok:q.Ok){par:Int}{e:En Nd}(hf:find q.N par=some e)(b:Nat)(sp sl:Int)(rv:RV) :
  ((q.app b ⟨sp,sl,par,[]⟩).setN par {e.q with ks:=e.q.ks++[q.next+1]} rv).N=addN q.N par (q.next+1) b sp sl:=by
 obtain⟨he,hid⟩:=Q0b hf;have hr:=ok.n.rng e he;show mapE _ (q.N++[_])=_;unfold addN mapE;rw[J6G];congr 1
 ·refine J5l fun c hc=>?_
  by_cases h:c.id=par
  ·have:c=e:=by
    have:=Q0k ok.n.ids hc;rw[h,hf] at this;cases this;rfl
   subst this;simp only[h,if_true]
  ·simp only[h,if_false]
 ·have Aa:¬(q.next+1=par):=by omega
  simp only[J3e,J5I,Aa,if_false]
structure Z2l(q:FO)(par sp sl:Int)(q':FO):Prop where
 f:q'.f=q.f
 m:q'.m=q.m
 o:q'.o=q.o
 N:∃b,q'.N=addN q.N par (q.next+1) b sp sl
 next:q'.next=q.next+1
 ok:q'.Ok
theorem Q8s{w:World}{q:FO}(h:Sep w q.hl)(ok:q.Ok){par sp sl:Int}(Bo:par=0∨∃e,find q.N par=some e)(h1:0<=sp)(h2:sp<4294967296)(h3:0<=sl)(h4:sl<256)(Aq:ownN q.N sp sl=0)(hlim:q.next+1<1099511627776)(C7:q.N.length<65536) :
  Calls prog 105 #[.pointer (some ⟨q.f,0,none⟩),.int .i64 par,.int .i64 sp,.int .i64 sl] w fun r w'=>r=.returned (.tuple #[.int .i64 (q.next+1),.int .i64 0])/\∃q':FO,Z2l q par sp sl q'/\Step q.hl q'.hl w w':=by
 have hp:=Q3u (p:=(sp,sl)) h1 (by show sp<_;omega) h3 (by show sl<_;omega);have Ac:∀b,(addN q.N par (q.next+1) b sp sl).length<=65536:=fun b=>by
  unfold addN mapE;rw[J3M,J4L,J7e];omega
 have hn:∀b,NOk (addN q.N par (q.next+1) b sp sl) (q.next+1):=fun b=>ok.n.add b Bo ((Q1y ok.n).1 Aq) h1 h2 h3 h4
 rcases Bo with rfl|⟨e,hf⟩
 ·refine(Z6A h ok hp Aq).mono ?_;rintro r w'⟨rfl,st⟩;have eN:=Z6B ok (w.heap.size+1) sp sl;refine⟨rfl,q.app (w.heap.size+1) ⟨sp,sl,0,[]⟩,⟨rfl,rfl,rfl,⟨_,eN⟩,rfl,⟨by rw[eN];exact hn _,hlim,fun c hc=>?_,by rw[eN];exact Ac _⟩⟩,st⟩;rcases J3Q.1 (show c∈q.N++[_] from hc) with hc|hc
  ·have:=ok.n.rng c hc;have hk:(q.app (w.heap.size+1) ⟨sp,sl,0,[]⟩).kr c.id=q.kr c.id:=if_neg (by omega);rw[hk];exact ok.rv c hc
  ·rw[J5j] at hc;subst hc;have hk:(q.app (w.heap.size+1) ⟨sp,sl,0,[]⟩).kr (q.next+1)=none:=if_pos rfl;show rvOk ((q.app (w.heap.size+1) ⟨sp,sl,0,[]⟩).kr (q.next+1)) 0;rw[hk];rfl
 ·refine(Z9b h ok hf hp Aq).mono ?_;rintro r w'⟨rfl,rv,A6,st⟩;have eN:=Z9c ok hf (w.heap.size+1) sp sl rv;obtain⟨he,hid⟩:=Q0b hf;have hr:=ok.n.rng e he;refine⟨rfl,(q.app (w.heap.size+1) ⟨sp,sl,par,[]⟩).setN par {e.q with ks:=e.q.ks++[q.next+1]} rv,⟨rfl,rfl,rfl,⟨_,eN⟩,rfl,⟨by rw[eN];exact hn _,hlim,fun c hc=>?_,by rw[eN];exact Ac _⟩⟩,st⟩;obtain⟨d,hd,rfl⟩:=Q1w (show c∈mapE _ (q.N++[_]) from hc);by_cases EE:d.id=par
  ·have hk:((q.app (w.heap.size+1) ⟨sp,sl,par,[]⟩).setN par {e.q with ks:=e.q.ks++[q.next+1]} rv).kr d.id=rv:=if_pos EE;show rvOk (((q.app (w.heap.size+1) ⟨sp,sl,par,[]⟩).setN par {e.q with ks:=e.q.ks++[q.next+1]} rv).kr d.id) (if d.id=par then({e.q with ks:=e.q.ks++[q.next+1]}:Nd) else d.q).ks.length;rw[hk,if_pos EE]
   simpa using A6
  ·have hk:((q.app (w.heap.size+1) ⟨sp,sl,par,[]⟩).setN par {e.q with ks:=e.q.ks++[q.next+1]} rv).kr d.id=(q.app (w.heap.size+1) ⟨sp,sl,par,[]⟩).kr d.id:=if_neg EE;show rvOk (((q.app (w.heap.size+1) ⟨sp,sl,par,[]⟩).setN par {e.q with ks:=e.q.ks++[q.next+1]} rv).kr d.id) (if d.id=par then({e.q with ks:=e.q.ks++[q.next+1]}:Nd) else d.q).ks.length;rw[hk,if_neg EE];rcases J3Q.1 hd with hd|hd
   ·have:=ok.n.rng d hd;have A2:(q.app (w.heap.size+1) ⟨sp,sl,par,[]⟩).kr d.id=q.kr d.id:=if_neg (by omega);rw[A2];exact ok.rv d hd
   ·rw[J5j] at hd;subst hd;have A2:(q.app (w.heap.size+1) ⟨sp,sl,par,[]⟩).kr (q.next+1)=none:=if_pos rfl;show rvOk ((q.app (w.heap.size+1) ⟨sp,sl,par,[]⟩).kr (q.next+1)) 0;rw[A2];rfl
theorem Q1S{w:World}{B B' size n:Nat}{T:TypeId}{v:Value}{xs:List Value}(h:w.ownsRow B T size v n xs)(hB:B'<=B):w.ownsRow B' T size v n xs:=by
 refine⟨h.1,?_⟩;rcases h.2 with h|⟨g,cap,Ag,e,hg,rest⟩
 ·exact .inl h
 ·exact .inr ⟨g,cap,Ag,e,J3c hB hg,rest⟩
def kidT(l:List Pl)(a x:Nat):Bool:=decide (x≠0)&&match l[x%256]? with
 | some p=>decide (p.fac=a)
 | none=>false
theorem Z6C{l:List Pl}{a x:Nat}{p:Pl}(hp:pget l 1 x=some p):kidT l a x=(decide (p.fac=a)&&decide (x≠0)):=by
 unfold kidT;rw[(pget_some.1 hp).1];simp[Bool.and_comm]
theorem Z6D{w:World}{S:CO}{fr:List Nat}{N K:Nat}(h:Sep w S.hl)(ok:S.Ok fr N K){x:Nat}(hx:x<4294967296){p:Pl}(hp:pget S.l 1 x=some p)(hk:p.kind=1) :
  Calls prog 207 #[.pointer (some ⟨S.c,0,none⟩),.int .u32 x] w (NewHs w (kids S.l x)):=by
 have AG:=ok.inv.lok;have hO:=Q6w h ok hx hp hk;have HS:=Q0a h;have JE:=Q0a AG;have Fl:kids S.l x=(allL S.l 1).filter (kidT S.l p.own):=by
  unfold kids;rw[hp];simp only[hk,if_true];rfl
 rw[Fl];have Tj:Hid (∀w1,Below w.heap.size w w1->w1.cell? ⟨S.c,1,none⟩=some (.pointer (some ⟨S.t,0,none⟩))/\Calls prog 86 #[.pointer (some ⟨S.t,0,none⟩)] w1 (NewHs w1 (allL S.l 1))):=fun w1 hb=>by
  have s1:=(h.grown hb).sep;exact⟨CO.c1 s1,Q9p (h:=S.ht) (CO.sT s1) AG⟩
 have Vy:Hid (∀w1 y,Below w.heap.size w w1->y∈allL S.l 1->w1.cell? ⟨S.c,1,none⟩=some (.pointer (some ⟨S.t,0,none⟩))/\∃q:Pl,pget S.l 1 y=some q/\Calls prog 112 #[.pointer (some ⟨S.t,0,none⟩),.int .u32 y] w1 (Told w1 (.tuple #[.agg #[.int .i64 (q.kind:Int),.int .i64 (q.at_:Int),.int .i64 (q.fac:Int)],.int .i64 0]))):=fun w1 y hb hy=>by
  have s1:=(h.grown hb).sep;obtain⟨q,hq⟩:=(Q3g (by rw[AG.1];omega)).1 hy;have Cl:y<4294967296:=by
   obtain⟨a1,a2,_⟩:=pget_some.1 hq;have:=(AG.2 q (J5q a1)).2;unfold nm at a2;omega
  exact⟨CO.c1 s1,q,hq,Q6u (h:=S.ht) (CO.sT s1) AG Cl hq⟩
 have Wp:(allL S.l 1).length<=256:=by
  have:=Q2A S.l 1 S.l.length;unfold allL;rw[AG.1] at this ⊢;exact this
 obtain⟨i0,CU,Bx,AX,AU⟩:=info_parts Q3K;clear h ok AG hp hk Fl;generalize p.own=po at *
 generalize hL:allL S.l 1=L at *
 go_enter func207,ntmps207;go_wp2_with fail;refine hO.mono ?_;rintro r w1⟨rfl,Aw⟩;obtain⟨c1,Ke⟩:=Tj.out w1 Aw;have Bp:=Q0a Aw;clear Aw;go_wp2_with fail;refine Ke.mono ?_;intro r w2 D3;obtain⟨a0,KA,rfl,Ai,GA⟩:=D3.shape;have E3:Hid (Below w.heap.size w w2):=Bp.out.trans (Ai.mono Bp.out.size);have G6:=Q0a GA;have Lp:=E3.out.size;clear D3 Ai GA Ke c1 hO;go_wp2_with fail
 go_loopg [5,26] L.length (fun gk ov iv wr=>∃k:Nat,iv=.int .i64 k/\k+gk=L.length/\OutH w2 wr ov ((L.take k).filter (kidT S.l po)))
 case atStart=>exact⟨0,rfl,J5G _,by simpa using OutH.nil w2⟩
 case round =>
  obtain⟨k,rfl,AC,Am⟩:=hrel;have HO:=Q0a Am;have BE:=Q0a AC;clear Am;by_cases Ab:k<L.length
  ·obtain⟨y,hy⟩:∃y,L[k]?=some y:=⟨_,J5t Ab⟩
   obtain⟨g0,rfl,KL,DE,Ak⟩:=(G6.out.below HO.out.2).at' k y hy;obtain⟨c1,q,hq,Bv⟩:=Vy.out wr y (E3.out.trans (HO.out.2.mono E3.out.size)) (J5q hy);have BL:(L.take (k+1)).filter (kidT S.l po)=(L.take k).filter (kidT S.l po)++if kidT S.l po y=true then [y] else []:=by
    rw[J4Y,hy,J4Z];simp[List.filter_cons]
   have AL:=Q0a BL;have Ew:=Z6C (a:=po) hq;have QC:=Q0a Ew;have Ac:((L.take k).filter (kidT S.l po)).length<=256:=J3c (J5r _ _) (by rw[J5v];omega);clear BL Ew hq hy;go_wp2_with fail;refine Bv.mono ?_;rintro r w3⟨rfl,Ar⟩;have Ix:Hid (∀o,OutH w2 (w3.alloc o) u5 ((L.take k).filter (kidT S.l po))):=fun o=>(HO.out.below Ar).alloc o
   have TH:w2.heap.size<=w3.heap.size:=J3c HO.out.2.size Ar.size;clear Ar Bv HO;by_cases hc:kidT S.l po y=true
   ·have A7:=QC.out;rw[hc] at A7;have Mn:=A7.symm;rw[J3x,decide_eq_true_eq,decide_eq_true_eq] at Mn;have Aw:(((q.fac:Nat):Int)==(po:Int))=true:=by simp;omega
    have Ai:(((y:Nat):Int) != 0)=true:=by simp;omega
    have Ar:(((y:Nat):Int)==0)=false:=by simp;omega
    have HC:=Q0a hc;clear hc A7 Mn;have Et:=Ix.out (.cells #[.int .i64 (q.kind:Int),.int .i64 (q.at_:Int),.int .i64 (q.fac:Int)] 54);go_wp2_with (refine wpList_append_own _ rfl (.tmp 47) (.tmp 49) 51 rfl w2.heap.size 58 i0 (.int .u32 0) 1 4 underlying51 CU Bx AX AU rfl (by decide) _ _ _ rfl ((Ix.out _).1.alloc _) ⟨w3.heap.size+1,0,none⟩ 1 1 [.int .u32 y] rfl rfl (Q7A _ _ _) (by simp[Value.oneCell']) (by unfold maxLen;omega) (by omega) (by simp;omega) ?_;intro v' w4 AH B9 _;have HR:=Q0a ((Ix.out _).app1 (M:=[y]) AH B9);clear AH B9 Ix Et);have CE:Hid (OutH w2 w4 v' ((L.take (k+1)).filter (kidT S.l po))):=by
     have:=AL.out;rw[if_pos HC.out] at this;rw[this];exact HR.out
    clear HR;go_roundg (L.length-(k+1))
    case measure=>have:=BE.out;omega
    case rel=>exact⟨k+1,by go_num,by omega,CE.out⟩
   ·have Nc:kidT S.l po y=false:=by simpa using hc
    have CE:Hid (∀o,OutH w2 (w3.alloc o) u5 ((L.take (k+1)).filter (kidT S.l po))):=fun o=>by
     have:=AL.out;rw[if_neg hc,J5i] at this;rw[this];exact Ix.out o
    have A7:=QC.out;rw[Nc] at A7;have Ay:q.fac≠po∨q.fac=po/\y=0:=by
     by_cases h1:q.fac=po
     ·right;refine⟨h1,?_⟩;rcases Nat.eq_zero_or_pos y with h2|h2
      ·exact h2
      ·exfalso;have h3:y≠0:=by omega
       simp[h1,h3] at A7
     ·exact .inl h1
    clear hc A7 Nc Ix;rcases Ay with h1|⟨h1,h2⟩
    ·have Aw:=Q4L h1;clear h1;go_wp2_with fail;go_roundg (L.length-(k+1))
     case measure=>have:=BE.out;omega
     case rel=>exact⟨k+1,by go_num,by omega,CE.out _⟩
    ·have Aw:(((q.fac:Nat):Int)==(po:Int))=true:=by simp;omega
     have Ai:(((y:Nat):Int) != 0)=false:=by simp;omega
     have Ar:(((y:Nat):Int)==0)=true:=by simp;omega
     clear h1 h2;go_wp2_with fail;go_roundg (L.length-(k+1))
     case measure=>have:=BE.out;omega
     case rel=>exact⟨k+1,by go_num,by omega,CE.out _⟩
  ·have DX:k=L.length:=by omega
   have Am:=HO.out;rw[DX,J7m] at Am;have HR:Hid (NewHs w (L.filter (kidT S.l po)) (.returned u5) wr):=⟨u5,rfl,Q1S Am.1 Lp,E3.out.trans (Am.2.mono Lp)⟩
   clear Am HO;go_wp2_with fail
   (try go_ret);exact HR.out
theorem Q9w{w:World}{S:CO}{x:Nat}{e:Int}(he:e≠0)(hO:Calls prog 150 #[.pointer (some ⟨S.c,0,none⟩),.int .u32 x] w (Told w (.tuple #[.int .i64 0,.int .i64 e]))) :
  Calls prog 207 #[.pointer (some ⟨S.c,0,none⟩),.int .u32 x] w (NewHs w []):=by
 have Aw:(e==0)=false:=by simpa using he
 go_enter func207,ntmps207;go_wp2_with (go_at_call 150;refine hO.mono ?_;rintro r w1⟨rfl,hb⟩;have HB:=Q0a hb;clear hb);have HR:Hid (∀w',w'=w1->NewHs w [] (.returned (.slice none 0 0)) w'):=fun w' e=>⟨_,rfl,World.ownsRow_nil _ _ _ _,by rw[e];exact HB.out⟩
 (try go_ret);exact HR.out _ rfl
theorem Q9x{w:World}{S:CO}{fr:List Nat}{N K:Nat}(h:Sep w S.hl)(ok:S.Ok fr N K){x:Nat}(hx:x<4294967296):Calls prog 207 #[.pointer (some ⟨S.c,0,none⟩),.int .u32 x] w (NewHs w (kids S.l x)):=by
 cases hp:pget S.l 1 x with
 | none =>
  rw[Q4D (fun p h=>by rw[hp] at h;cases h)];exact Q9w (e:=8) (by decide) (Q5M (by decide) (Q4M h ok.inv.lok hx 1 hp))
 | some p =>
  by_cases hk:p.kind=1
  ·exact Z6D h ok hx hp hk
  ·rw[Q4D (fun q h=>by rw[hp] at h;cases h;exact hk)];exact Q9w (e:=10) (by decide) (Q5M (by decide) (Q3t h ok.inv.lok hx 1 hp (by decide) (by omega)))
structure Alt0(S S':CO):Prop where
 c:S'.c=S.c
 t:S'.t=S.t
 l:S'.l=S.l
 g:S'.g=S.g
 per:S'.period=S.period
 now:S'.now=S.now
 rv:S'.rv=S.rv
 ts:S'.ts=S.ts
 same:SameP S.P S'.P
 next:S'.P.q.next=S.P.q.next
 acc:∀id e,find S.P.q.E id=some e->∃e',find S'.P.q.E id=some e'/\e'.q={e.q with charged:=e'.q.charged}
 ids:S'.P.q.E.map En.id=S.P.q.E.map En.id
 kept:∀r∈S.l,r.is=true->r.kind≠2->Kept S.P.a.mem S'.P.a.mem r.at_ (costK r.kind)
theorem Alt.alt0{S S':CO}{own:Int}(h:Alt S S' own):Alt0 S S':=⟨h.c,h.t,h.l,h.g,h.per,h.now,h.rv,h.ts,h.same,h.next,fun id e he=>by
 obtain⟨e',a,b,_⟩:=h.acc id e he;exact⟨e',a,b⟩,h.ids,h.kept⟩
theorem Alt0.refl(S:CO):Alt0 S S:=(Alt.refl S 0).alt0
theorem Alt0.trans{S S1 S2:CO}(h:Alt0 S S1)(k:Alt0 S1 S2):Alt0 S S2:=by
 refine⟨k.c.trans h.c,k.t.trans h.t,k.l.trans h.l,k.g.trans h.g,k.per.trans h.per,k.now.trans h.now,k.rv.trans h.rv,k.ts.trans h.ts,h.same.trans k.same,k.next.trans h.next,fun id e he=>?_,k.ids.trans h.ids,fun r hr hi hk=>?_⟩
 ·obtain⟨e1,a1,a2⟩:=h.acc id e he;obtain⟨e2,b1,b2⟩:=k.acc id e1 a1;refine⟨e2,b1,?_⟩;rw[b2,a2]
 ·exact(h.kept r hr hi hk).trans (k.kept r (by rw[h.l];exact hr) hi hk)
structure SP where
 s:Nat
 S:CO
 tb:Nat->TB
 F:FO
def SP.head(Z:SP):Nat×(Obj->Prop):=(Z.s,isC 183 [ptr Z.S.c,ptr Z.F.f])
def SP.hl(Z:SP):HL:=Z.head::(Z.S.hl++Z.F.hl)
structure SP.Ok(Z:SP)(fr:List Nat)(N K:Nat)(M:Int):Prop where
 core:Z.S.Ok fr N K
 tpi:TPI Z.S Z.tb
 fpi:FPI Z.S.l Z.tb Z.F.N
 fo:Z.F.Ok
 next:Z.F.next<=M
def SP.av(Z:SP):AV:=avOf Z.S.l Z.tb Z.F.N
structure SameN(Z Z':SP):Prop where
 s:Z'.s=Z.s
 alt:Alt0 Z.S Z'.S
 f:Z'.F.f=Z.F.f
theorem SameN.refl(Z:SP):SameN Z Z:=⟨rfl,Alt0.refl _,rfl⟩
theorem SameN.trans{Z Z1 Z2:SP}(h:SameN Z Z1)(k:SameN Z1 Z2):SameN Z Z2:=⟨k.s.trans h.s,h.alt.trans k.alt,k.f.trans h.f⟩
structure SameZ(Z Z':SP):Prop extends SameN Z Z' where
 nx:Z'.F.next=Z.F.next
theorem SameZ.refl(Z:SP):SameZ Z Z:=⟨SameN.refl Z,rfl⟩
theorem SameZ.trans{Z Z1 Z2:SP}(h:SameZ Z Z1)(k:SameZ Z1 Z2):SameZ Z Z2:=⟨h.toSameN.trans k.toSameN,k.nx.trans h.nx⟩
def SP.setS(Z:SP)(S:CO)(tb:Nat->TB):SP:={Z with S:=S,tb:=tb}
def SP.setF(Z:SP)(F:FO):SP:={Z with F:=F}
theorem SP.permS(Z:SP):Z.hl.Perm (Z.S.hl++(Z.head::Z.F.hl)):=by
 unfold SP.hl;exact J6H.symm
theorem SP.permF(Z:SP):Z.hl.Perm (Z.F.hl++(Z.head::Z.S.hl)):=by
 unfold SP.hl;refine(List.Perm.cons _ J5P).trans ?_;exact J6H.symm
section
variable {w:World} {Z:SP}
theorem SP.sS(h:Sep w Z.hl):Sep w Z.S.hl:=h.part Z.permS
theorem SP.sF(h:Sep w Z.hl):Sep w Z.F.hl:=h.part Z.permF
theorem SP.cells(h:Sep w Z.hl):Cells w Z.s 183 [ptr Z.S.c,ptr Z.F.f]:=h.cells (by simp[SP.hl,SP.head])
theorem SP.c0(h:Sep w Z.hl):w.cell? ⟨Z.s,0,none⟩=some (.pointer (some ⟨Z.S.c,0,none⟩)):=(SP.cells h).cell 0 _ rfl
theorem SP.c1(h:Sep w Z.hl):w.cell? ⟨Z.s,1,none⟩=some (.pointer (some ⟨Z.F.f,0,none⟩)):=(SP.cells h).cell 1 _ rfl
end
theorem SP.stepS{w w':World}{Z:SP}(h:Sep w Z.hl)(S':CO)(tb':Nat->TB)(e:S'.c=Z.S.c)(s:Step Z.S.hl S'.hl w w'):Step Z.hl (Z.setS S' tb').hl w w':=by
 have hp:=(Z.setS S' tb').permS;have e1:(Z.setS S' tb').head=Z.head:=by unfold SP.head SP.setS;rw[e]
 rw[e1] at hp;exact Step.lift Z.permS hp h s
theorem SP.stepF{w w':World}{Z:SP}(h:Sep w Z.hl)(F':FO)(e:F'.f=Z.F.f)(s:Step Z.F.hl F'.hl w w'):Step Z.hl (Z.setF F').hl w w':=by
 have hp:=(Z.setF F').permF;have e1:(Z.setF F').head=Z.head:=by unfold SP.head SP.setF;rw[e]
 rw[e1] at hp;exact Step.lift Z.permF hp h s
theorem SP.Ok.mono{Z:SP}{fr:List Nat}{N N' K K':Nat}{M M':Int}(ok:Z.Ok fr N K M)(h1:N<=N')(h2:K<=K')(h3:M<=M'):Z.Ok fr N' K' M':=⟨ok.core.mono h1 h2,ok.tpi,ok.fpi,ok.fo,by have:=ok.next;omega⟩
theorem FPI.rights{l:List Pl}{tb:Nat->TB}{N:List (En Nd)}(f:FPI l tb N){h s:Nat}{x:Nat×Nat}(hx:(avOf l tb N).en h s=some x):1<=x.2/\x.2<16:=by
 unfold avOf at hx;simp only at hx;cases he:Q0f l tb h s with
 | none=>rw[he] at hx;cases hx
 | some e =>
  rw[he] at hx;cases hx;have:=(f.cap h s e he).r;exact⟨this.1,by show e.r<16;omega⟩
theorem FPI.task{l:List Pl}{tb:Nat->TB}{N:List (En Nd)}(f:FPI l tb N){next:Int}(ok:NOk N next){n:En Nd}(hn:n∈N):∃(h s:Nat) (p:Pl) (e:Ent),n.q.sp=(h:Int)/\n.q.sl=(s:Int)/\h<4294967296/\s<256/\pget l 1 h=some p/\p.kind=2/\(tb (h%256)).en s=some e/\Q0f l tb h s=some e:=by
 obtain⟨e,he⟩:=f.is n hn;have hs:=ok.sm n hn;unfold Q0O at he;obtain⟨p,p1,p2,p3,p4⟩:=Q3M he;exact⟨n.q.sp.toNat,n.q.sl.toNat,p,e,by omega,by omega,by omega,p3,p1,p2,p4,he⟩
theorem FPI.own{l:List Pl}{tb:Nat->TB}{N:List (En Nd)}(f:FPI l tb N){next:Int}(ok:NOk N next){h s:Nat}{e:Ent}(he:Q0f l tb h s=some e):∃n∈N,n.q.sp=(h:Int)/\n.q.sl=(s:Int)/\ownN N (h:Int) (s:Int)=n.id/\find N n.id=some n:=by
 obtain⟨n,h1,h2,h3⟩:=f.has h s e he;refine⟨n,h1,h2,h3,?_,Q0k ok.ids h1⟩;rw[<- h2,<- h3];exact Q1R ok h1
theorem FPI.free{l:List Pl}{tb:Nat->TB}{N:List (En Nd)}(f:FPI l tb N){next:Int}(ok:NOk N next){h s:Nat}(he:Q0f l tb h s=none):ownN N (h:Int) (s:Int)=0:=by
 refine(Q1y ok).2 fun n hn hx=>?_
 obtain⟨e,h2⟩:=f.is n hn;simp only[Prod.mk.injEq] at hx;unfold Q0O at h2;rw[hx.1,hx.2,J4h,J4h,he] at h2;cases h2
theorem FPI.few{l:List Pl}{tb:Nat->TB}{N:List (En Nd)}(f:FPI l tb N){next:Int}(ok:NOk N next){h s:Nat}{p:Pl}(hp:pget l 1 h=some p)(hs:s<256)(he:Q0f l tb h s=none):N.length<65536:=by
 have key:∀n∈N,∃p s,pget l 1 n.q.sp.toNat=some p/\n.q.sl=((s:Nat):Int)/\s<256:=fun n hn=>by
  obtain⟨h',s',p',e',h1,h2,_,h3,h4,_⟩:=f.task ok hn;exact⟨p',s',by rw[h1,J4h];exact h4,h2,h3⟩
 have OC:∀n∈N,n.q.sp.toNat%256*256+n.q.sl.toNat<65536:=fun n hn=>by
  obtain⟨p',s',_,h2,h3⟩:=key n hn;omega
 have inj:∀a∈N,∀b∈N,a.q.sp.toNat%256*256+a.q.sl.toNat=b.q.sp.toNat%256*256+b.q.sl.toNat->a=b:=fun a ha b hb hc=>by
  obtain⟨pa,sa,a1,a2,a3⟩:=key a ha;obtain⟨pb,sb,b1,b2,b3⟩:=key b hb;have e1:a.q.sp.toNat%256=b.q.sp.toNat%256:=by omega
  obtain⟨e2,_,_⟩:=Q0S a1 b1 e1;have FT:=ok.sm a ha;have Al:=ok.sm b hb;exact Q4i ok ha hb (by omega) (by omega)
 have nd:(N.map fun n=>n.q.sp.toNat%256*256+n.q.sl.toNat).Nodup:=by
  refine J3H.2 ?_;refine(List.Pairwise.and_mem.1 ok.ids).imp ?_;rintro a b⟨ha,hb,Cp⟩ hc;exact Cp (by rw[inj a ha b hb hc])
 have DA:h%256*256+s∉N.map fun n=>n.q.sp.toNat%256*256+n.q.sl.toNat:=fun hm=>by
  obtain⟨n,hn,hc⟩:=J3h.1 hm;obtain⟨p',s',h1,h2,h3⟩:=key n hn;have e1:n.q.sp.toNat%256=h%256:=by omega
  obtain⟨e2,_,_⟩:=Q0S h1 hp e1;obtain⟨e,h4⟩:=f.is n hn;unfold Q0O at h4;rw[e2,show n.q.sl.toNat=s by omega,he] at h4;cases h4
 have Ow:∀B,(∀x∈(h%256*256+s)::N.map fun n=>n.q.sp.toNat%256*256+n.q.sl.toNat,x<B)->((h%256*256+s)::N.map fun n=>n.q.sp.toNat%256*256+n.q.sl.toNat).length<=B:=fun B hB=>Q4q B _ (J3Y.2 ⟨DA,nd⟩) hB
 have:=Ow 65536 fun x hx=>by
  rcases J3g.1 hx with rfl|hx
  ·omega
  ·obtain⟨n,hn,rfl⟩:=J3h.1 hx;exact OC n hn
 rw[J3N,J4L] at this;omega
end Go.Proofs.YtfidemmgofcnmaaGreatDoor
