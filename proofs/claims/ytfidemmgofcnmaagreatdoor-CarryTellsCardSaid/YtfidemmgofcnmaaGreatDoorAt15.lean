/- What the laws of spaces share is proved. No condition. Part of a proof. -/
import Derived.Test.YtfidemmgofcnmaaGreatDoorAt14
set_option maxHeartbeats 2000000
set_option linter.unusedVariables false
namespace Go.Proofs.YtfidemmgofcnmaaGreatDoor
open Go.RowKit Go.Proofs.Tryz
theorem Z7D(f:En Nd->Nd)(N:List (En Nd)):kvs (mapE f N)=kvs N:=by
 unfold kvs mapE;rw[J3F];rfl
theorem Z7E{f:En Nd->Nd}{N:List (En Nd)}(h:∀c∈N,(f c).sp=c.q.sp/\(f c).sl=c.q.sl):okv (mapE f N)=okv N:=by
 unfold okv mapE;rw[J3F];exact J3G fun c hc=>by simp[(h c hc).1,(h c hc).2]
def FO.setN(q:FO)(id:Int)(n:Nd)(rv:RV):FO:={q with N:=mapE (fun c=>if c.id=id then n else c.q) q.N,kr:=fun j=>if j=id then rv else q.kr j}
theorem FO.split{q:FO}(Af:q.N.Pairwise (fun a b=>a.id≠b.id)){id:Int}{e:En Nd}(hf:find q.N id=some e) :
  ∃R:HL,q.hl.Perm (((e.b,isC 285 (e.q.cells (q.kr id)))::rowH (q.kr id) 3 1 (e.q.ks.map encI))++R)/\∀(n:Nd) (rv:RV),n.sp=e.q.sp->n.sl=e.q.sl ->
   (q.setN id n rv).hl.Perm (((e.b,isC 285 (n.cells rv))::rowH rv 3 1 (n.ks.map encI))++R):=by
 obtain⟨he,hid⟩:=Q0d hf;obtain⟨A,B,hN⟩:=List.append_of_mem he;have hA:∀c∈A,c.id≠id:=fun c hc=>by
  rw[hN,J2l] at Af;have:=Af.2.2 c hc e (by simp);rw[hid] at this;exact this
 have hB:∀c∈B,c.id≠id:=fun c hc=>by
  rw[hN,J2l,J2d] at Af;have:=Af.2.1.1 c hc;rw[hid] at this;exact this.symm
 have mid:∀(X Y:HL) (h1 h2 h3:Nat×(Obj->Prop)) (Z:HL),(h1::h2::h3::(X++(Z++Y))).Perm (Z++(h1::h2::h3::(X++Y))):=fun X Y h1 h2 h3 Z=>by
  have e1:h1::h2::h3::(X++(Z++Y))=(h1::h2::h3::X)++(Z++Y):=by simp
  have e2:Z++(h1::h2::h3::(X++Y))=Z++((h1::h2::h3::X)++Y):=by simp
  rw[e1,e2,<- J2x,<- J2x];exact J4k Y J4l
 refine⟨q.head::(q.m,isMI (kvs q.N))::(q.o,isMS (okv q.N))::(A.flatMap (ndH q.kr)++B.flatMap (ndH q.kr)),?_,fun n rv h1 h2=>?_⟩
 ·unfold FO.hl;have:q.N.flatMap (ndH q.kr)=A.flatMap (ndH q.kr)++(ndH q.kr e++B.flatMap (ndH q.kr)):=by
   conv=>lhs;rw[hN]
   simp
  rw[this];refine(mid _ _ _ _ _ _).trans ?_;unfold ndH;rw[hid]
 ·have e1:kvs (q.setN id n rv).N=kvs q.N:=Z7D _ _;have e2:okv (q.setN id n rv).N=okv q.N:=Z7E fun c hc=>by
   by_cases h:c.id=id
   ·rw[if_pos h];have:c=e:=by
     have:=Q0r Af hc;rw[h,hf] at this;cases this;rfl
    subst this;exact⟨h1,h2⟩
   ·rw[if_neg h];exact⟨rfl,rfl⟩
  have e3:∀L:List (En Nd),(∀c∈L,c.id≠id)->(mapE (fun c=>if c.id=id then n else c.q) L).flatMap (ndH (q.setN id n rv).kr)=L.flatMap (ndH q.kr):=fun L hL=>by
   rw[Q9O (fun c hc=>if_neg (hL c hc))];unfold List.flatMap;congr 1;exact J3G fun c hc=>by
    unfold ndH FO.setN;simp only[if_neg (hL c hc)]
  have e4:(q.setN id n rv).N.flatMap (ndH (q.setN id n rv).kr)=A.flatMap (ndH q.kr)++(((e.b,isC 285 (n.cells rv))::rowH rv 3 1 (n.ks.map encI))++B.flatMap (ndH q.kr)):=by
   have:(q.setN id n rv).N=mapE (fun c=>if c.id=id then n else c.q) A++({e with q:=n}::mapE (fun c=>if c.id=id then n else c.q) B):=by
    show mapE _ q.N=_
    conv=>lhs;rw[hN]
    unfold mapE;have Qk:(fun c:En Nd=>if c.id=id then n else c.q) e=n:=if_pos hid;rw[J4Z,J1H,Qk]
   rw[this,J2i,J2a,e3 A hA,e3 B hB];congr 2;unfold ndH FO.setN;simp only[hid,if_true]
  unfold FO.hl;rw[e1,e2,e4];exact mid _ _ _ _ _ _
def FO.app(q:FO)(b:Nat)(n:Nd):FO:={q with N:=q.N++[⟨q.next+1,b,n⟩],next:=q.next+1,kr:=fun j=>if j=q.next+1 then none else q.kr j}
theorem FO.new_none{q:FO}(ok:q.Ok):find q.N (q.next+1)=none:=by
 cases hf:find q.N (q.next+1) with
 | none=>rfl
 | some e =>
  obtain⟨e1,e2⟩:=Q0d hf;have:=ok.n.rng e e1;omega
theorem FO.appSteps{w:World}{q:FO}(h:Sep w q.hl)(ok:q.Ok){sp sl par:Int}(hp:Q1x prog 173 (sp,sl))(Aw:ownN q.N sp sl=0)(W1 W2:World)(KD:W1=(w.setCell ⟨q.f,2,none⟩ (.int .i64 (q.next+1))).drew)(IX:W2=W1.alloc (.cells #[.int .i64 sp,.int .i64 sl,.int .i64 par,.slice none 0 0] 285)) :
  ∃w3 w4,(Instr.mapUpdate 280 (.map (some q.m)) (.int .i64 (q.next+1)) (.pointer (some ⟨w.heap.size,0,none⟩))).run prog W2=.ok () w3 /\
   (Instr.mapUpdate 281 (.map (some q.o)) (.agg #[.int .i64 sp,.int .i64 sl]) (.int .i64 (q.next+1))).run prog w3.drew=.ok () w4 /\
   Step q.hl (q.app w.heap.size ⟨sp,sl,par,[]⟩).hl w w4 /\
   w3.cell? ⟨q.f,0,none⟩=some (.map (some q.m))/\w3.cell? ⟨q.f,1,none⟩=some (.map (some q.o))/\w3.cell? ⟨q.f,2,none⟩=some (.int .i64 (q.next+1)) /\
   W1.cell? ⟨q.f,0,none⟩=some (.map (some q.m))/\W1.cell? ⟨q.f,2,none⟩=some (.int .i64 (q.next+1)) /\
   W2.cell? ⟨q.f,0,none⟩=some (.map (some q.m))/\W2.cell? ⟨q.f,2,none⟩=some (.int .i64 (q.next+1)) /\
   (∀b i v,b∉keys q.hl->b<w.heap.size->w.cell? ⟨b,i,none⟩=some v->w3.cell? ⟨b,i,none⟩=some v/\w4.cell? ⟨b,i,none⟩=some v):=by
 have s1:Step q.hl ((q.f,isC 283 [.map (some q.m),.map (some q.o),.int .i64 (q.next+1)])::(q.m,isMI (kvs q.N))::(q.o,isMS (okv q.N))::q.N.flatMap (ndH q.kr)) w (w.setCell ⟨q.f,2,none⟩ (.int .i64 (q.next+1))):=Sep.set (A:=[]) (B:=(q.m,isMI (kvs q.N))::(q.o,isMS (okv q.N))::q.N.flatMap (ndH q.kr)) h 2 (.int .i64 (q.next+1));have s1d:=s1.drew;rw[<- KD] at s1d;have Be:W1.heap.size=w.heap.size:=by rw[KD];simp[World.setCell,World.drew]
 have s2:=s1d.sep.new 285 [.int .i64 sp,.int .i64 sl,.int .i64 par,.slice none 0 0];rw[Be] at s2;have s2':Step _ _ W1 W2:=IX ▸ s2;have m2:Q0G W2 q.m (kvs q.N):=s2'.sep.map (by simp[isMI]);obtain⟨w3,r3,m3,g3⟩:=Q1n m2 (q.next+1) (.pointer (some ⟨w.heap.size,0,none⟩)) underlying280 underlying3;obtain⟨es,Ag,ho,hr⟩:=m3;have s3:=Sep.turn (A:=[(w.heap.size,isC 285 [.int .i64 sp,.int .i64 sl,.int .i64 par,.slice none 0 0]),(q.f,isC 283 [.map (some q.m),.map (some q.o),.int .i64 (q.next+1)])]) (B:=(q.o,isMS (okv q.N))::q.N.flatMap (ndH q.kr)) (q':=isMI (put (kvs q.N) (q.next+1) (ptr w.heap.size))) s2'.sep g3 ⟨_,ho,es,Ag,rfl,hr⟩
 have s3d:=s3.drew;have m3':Q2L w3.drew q.o (okv q.N):=s3d.sep.map (by simp[isMS]);have Ef:Q3p (okv q.N) (sp,sl)=none:=by
  cases hl:Q3p (okv q.N) (sp,sl) with
  | none=>rfl
  | some v =>
   exfalso;unfold Q3p okv at hl;obtain⟨a,ha,_⟩:=J5q.1 hl;have h1:=J5E ha;have h2:=J5F ha;obtain⟨c,hc,rfl⟩:=J1K.1 h1;exact(Q5M ok.n).1 Aw c hc (by simpa using h2)
 obtain⟨w4,r4,m4,g4⟩:=Q3Z m3' Q9T (Z0W ok) (Z0X ok) hp (.int .i64 (q.next+1)) Ef underlying281;obtain⟨es4,EQ,PX,Ld⟩:=m4;have s4:=Sep.turn (A:=[(w.heap.size,isC 285 [.int .i64 sp,.int .i64 sl,.int .i64 par,.slice none 0 0]),(q.f,isC 283 [.map (some q.m),.map (some q.o),.int .i64 (q.next+1)]),(q.m,isMI (put (kvs q.N) (q.next+1) (ptr w.heap.size)))]) (B:=q.N.flatMap (ndH q.kr)) (q':=isMS (okv q.N++[((sp,sl),.int .i64 (q.next+1))])) s3d.sep g4 ⟨_,PX,es4,EQ,rfl,Ld⟩;have t4:=((s1d.trans s2').trans s3d).trans s4;have t3:=(s1d.trans s2').trans s3;refine⟨w3,w4,r3,r4,?_,?_,?_,?_,?_,?_,?_,?_,fun b i v hb Aa hc=>?_⟩
 ·refine t4.perm (J4Q _) ?_;have e1:kvs (q.N++[⟨q.next+1,w.heap.size,⟨sp,sl,par,[]⟩⟩])=put (kvs q.N) (q.next+1) (ptr w.heap.size):=(Z3s q.N (q.next+1) w.heap.size _ (FO.new_none ok)).symm;have e2:okv (q.N++[⟨q.next+1,w.heap.size,⟨sp,sl,par,[]⟩⟩])=okv q.N++[((sp,sl),.int .i64 (q.next+1))]:=by
   unfold okv;rw[J4Z];rfl
  have e3:(q.N++[(⟨q.next+1,w.heap.size,⟨sp,sl,par,[]⟩⟩:En Nd)]).flatMap (ndH (q.app w.heap.size ⟨sp,sl,par,[]⟩).kr)=q.N.flatMap (ndH q.kr)++[(w.heap.size,isC 285 [.int .i64 sp,.int .i64 sl,.int .i64 par,.slice none 0 0])]:=by
   have a1:q.N.flatMap (ndH (q.app w.heap.size ⟨sp,sl,par,[]⟩).kr)=q.N.flatMap (ndH q.kr):=by
    rw[J5y,J5y];refine congrArg List.flatten (J3G fun c hc=>?_);have:=ok.n.rng c hc;have hk:(q.app w.heap.size ⟨sp,sl,par,[]⟩).kr c.id=q.kr c.id:=if_neg (by omega);unfold ndH;rw[hk]
   have a2:[(⟨q.next+1,w.heap.size,⟨sp,sl,par,[]⟩⟩:En Nd)].flatMap (ndH (q.app w.heap.size ⟨sp,sl,par,[]⟩).kr)=[(w.heap.size,isC 285 [.int .i64 sp,.int .i64 sl,.int .i64 par,.slice none 0 0])]:=by
    have hk:(q.app w.heap.size ⟨sp,sl,par,[]⟩).kr (q.next+1)=none:=if_pos rfl;rw[J2a,J5w,J3D];unfold ndH;rw[hk];rfl
   rw[J2i,a1,a2]
  unfold FO.hl FO.head;show List.Perm _ ((q.f,_)::(q.m,isMI (kvs (q.N++[_])))::(q.o,isMS (okv (q.N++[_])))::(q.N++[_]).flatMap _);rw[e1,e2,e3];exact(J5b _ ((q.f,isC 283 [.map (some q.m),.map (some q.o),.int .i64 (q.next+1)])::(q.m,isMI (put (kvs q.N) (q.next+1) (ptr w.heap.size)))::(q.o,isMS (okv q.N++[((sp,sl),.int .i64 (q.next+1))]))::q.N.flatMap (ndH q.kr))).symm
 ·exact(s3.sep.cells (b:=q.f) (T:=283) (cs:=[.map (some q.m),.map (some q.o),.int .i64 (q.next+1)]) (by simp)).cell 0 _ rfl
 ·exact(s3.sep.cells (b:=q.f) (T:=283) (cs:=[.map (some q.m),.map (some q.o),.int .i64 (q.next+1)]) (by simp)).cell 1 _ rfl
 ·exact(s3.sep.cells (b:=q.f) (T:=283) (cs:=[.map (some q.m),.map (some q.o),.int .i64 (q.next+1)]) (by simp)).cell 2 _ rfl
 ·exact(s1d.sep.cells (b:=q.f) (T:=283) (cs:=[.map (some q.m),.map (some q.o),.int .i64 (q.next+1)]) (by simp)).cell 0 _ rfl
 ·exact(s1d.sep.cells (b:=q.f) (T:=283) (cs:=[.map (some q.m),.map (some q.o),.int .i64 (q.next+1)]) (by simp)).cell 2 _ rfl
 ·exact(s2'.sep.cells (b:=q.f) (T:=283) (cs:=[.map (some q.m),.map (some q.o),.int .i64 (q.next+1)]) (by simp)).cell 0 _ rfl
 ·exact(s2'.sep.cells (b:=q.f) (T:=283) (cs:=[.map (some q.m),.map (some q.o),.int .i64 (q.next+1)]) (by simp)).cell 2 _ rfl
 ·exact⟨(World.cell?_of_block (t3.chg.block b Aa hb)).trans hc,(World.cell?_of_block (t4.chg.block b Aa hb)).trans hc⟩
theorem Z7F{w:World}{H:HL}{rv:RV}{l:List Int}(h:Sep w (rowH rv 3 1 (l.map encI)++H))(B3:rvOk rv l.length)(hl:l.length<=65536)(x:Int)(ty:TypeId) :
  ∃rv' w',(Builtin.append_ #[38,38] ty #[lvOf rv l.length,.slice (some ⟨w.heap.size,0,none⟩) 1 1]).run prog (w.alloc (.cells #[.int .i64 x] 3))=.ok (lvOf rv' (l.length+1)) w'/\rvOk rv' (l.length+1)/\Step (rowH rv 3 1 (l.map encI)++H) (rowH rv' 3 1 ((l++[x]).map encI)++H) w w':=by
 obtain⟨i0,hi,BJ,AZ,Bd⟩:=info_parts Q9Q;have ha:=h.alloc (.cells #[.int .i64 x] 3);have Al:=Q3N ha.left B3 (by rw[J3g,J2D]);obtain⟨v',w',hr,q1,q2,_,q4⟩:=run_append_own_at (P:=prog) (w.alloc (.cells #[.int .i64 x] 3)) 0 38 ty 3 i0 (.int .i64 0) 1 8 underlying38 hi BJ AZ Bd rfl (by decide) (lvOf rv l.length) l.length (l.map encI) Al ⟨w.heap.size,0,none⟩ 1 1 [.int .i64 x] rfl (by
  intro j u hj;have:=(Cells.new w 3 [.int .i64 x]).cell j u hj;have e:(⟨w.heap.size,0,none⟩:Addr).add j=⟨w.heap.size,j,none⟩:=by unfold Addr.add;split <;> simp_all
  rw[e];exact this) (fun u hu=>by rw[J3E.1 hu];rfl) (by unfold maxLen;omega) (by omega) (J3z _)
 obtain⟨rv',rfl,e2,e3⟩:=Q1d (A:=[]) (B:=H) (by simpa using ha) q1 q2 q4;refine⟨rv',w',hr,e2,?_⟩;rw[J4Z];have e4:Step (rowH rv 3 1 (l.map encI)++H) (rowH rv' 3 1 (l.map encI++[encI x])++H) (w.alloc (.cells #[.int .i64 x] 3)) w':=by simpa using e3
 exact e4.from_alloc
theorem FO.pushK{w:World}{q:FO}(h:Sep w q.hl)(Af:q.N.Pairwise (fun a b=>a.id≠b.id)){id:Int}{e:En Nd}(hf:find q.N id=some e)(AC:rvOk (q.kr id) e.q.ks.length)(hl:e.q.ks.length<=65536)(x:Int)(ty:TypeId) :
  ∃rv' w',(Builtin.append_ #[38,38] ty #[lvOf (q.kr id) e.q.ks.length,.slice (some ⟨w.heap.size,0,none⟩) 1 1]).run prog (w.alloc (.cells #[.int .i64 x] 3))=.ok (lvOf rv' (e.q.ks.length+1)) w'/\rvOk rv' (e.q.ks.length+1) /\
   w'.cell? ⟨e.b,3,none⟩=some (lvOf (q.kr id) e.q.ks.length)/\(∀i,w'.frozen? ⟨e.b,i,none⟩=false)/\Step q.hl (q.setN id {e.q with ks:=e.q.ks++[x]} rv').hl w (w'.setCell ⟨e.b,3,none⟩ (lvOf rv' (e.q.ks.length+1))):=by
 obtain⟨R,p1,p2⟩:=FO.split Af hf;have pm:∀(Z:HL) (a:Nat×(Obj->Prop)),((a::Z)++R).Perm (Z++(a::R)):=fun Z a=>J5a.symm
 have h':Sep w (rowH (q.kr id) 3 1 (e.q.ks.map encI)++((e.b,isC 285 (e.q.cells (q.kr id)))::R)):=h.perm (p1.trans (pm _ _));obtain⟨rv',w',r1,r2,st⟩:=Z7F h' AC hl x ty;have hc:=st.sep.cells (b:=e.b) (T:=285) (cs:=e.q.cells (q.kr id)) (by simp);have s2:=Sep.set (A:=rowH rv' 3 1 ((e.q.ks++[x]).map encI)) (B:=R) st.sep 3 (lvOf rv' (e.q.ks.length+1));refine⟨rv',w',r1,r2,hc.cell 3 _ rfl,hc.free,(st.trans s2).perm ((p1.trans (pm _ _)).symm) ?_⟩;have Ba:(e.q.cells (q.kr id)).set 3 (lvOf rv' (e.q.ks.length+1))=Nd.cells {e.q with ks:=e.q.ks++[x]} rv':=by
  unfold Nd.cells;simp
 rw[Ba];exact((p2 {e.q with ks:=e.q.ks++[x]} rv' rfl rfl).trans (pm _ _)).symm
theorem NOk.kids_few{N:List (En Nd)}{next:Int}(ok:NOk N next){e:En Nd}(he:e∈N):e.q.ks.length<=N.length:=by
 have:=J5G (ok.nd e he) (l₂:=N.map En.id) (fun k hk=>by
  obtain⟨c,hc,_⟩:=ok.kids e he k hk;obtain⟨c1,c2⟩:=Q0d hc;exact J1K.2 ⟨c,c1,c2⟩)
 rwa [J3g] at this
theorem Z5b{w:World}{q:FO}(h:Sep w q.hl)(ok:q.Ok){sp sl:Int}(hp:Q1x prog 173 (sp,sl))(Aw:ownN q.N sp sl=0) :
  Calls prog 105 #[.pointer (some ⟨q.f,0,none⟩),.int .i64 0,.int .i64 sp,.int .i64 sl] w fun r w'=>r=.returned (.tuple #[.int .i64 (q.next+1),.int .i64 0])/\Step q.hl (q.app (w.heap.size+1) ⟨sp,sl,0,[]⟩).hl w w':=by
 have ka:=Q5i h ok.n.zero;have h0:=(h.alloc (.cells #[.int .i64 sp,.int .i64 sl] 173)).drew;have hl:=FO.look_own h0 ok hp;rw[Aw] at hl;have c0:=FO.c0 h;have c1:=FO.c1 h;have c2:=FO.c2 h;have d0:=FO.c0 h0;have d1:=FO.c1 h0;have d2:=FO.c2 h0;have hb:=Cells.new w 173 [.int .i64 sp,.int .i64 sl];obtain⟨w3,w4,r3,r4,st,f0,f1,f2,g0,g2,n0,n2,keep⟩:=FO.appSteps (par:=0) h0 ok hp Aw _ _ rfl rfl;have Be:(w.alloc (.cells #[.int .i64 sp,.int .i64 sl] 173)).drew.heap.size=w.heap.size+1:=by simp[World.drew]
 have DJ:w.heap.size∉keys q.hl:=fun hk=>by have:=h.lt hk;omega
 have b0:(w.alloc (.cells #[.int .i64 sp,.int .i64 sl] 173)).drew.cell? ⟨w.heap.size,0,none⟩=some (.int .i64 sp):=hb.cell 0 _ rfl;have b1:(w.alloc (.cells #[.int .i64 sp,.int .i64 sl] 173)).drew.cell? ⟨w.heap.size,1,none⟩=some (.int .i64 sl):=hb.cell 1 _ rfl;have e0:=keep w.heap.size 0 _ DJ (by omega) b0;have e1:=keep w.heap.size 1 _ DJ (by omega) b1;rw[Be] at r3 st;have HS:Hid (Step q.hl (q.app (w.heap.size+1) ⟨sp,sl,0,[]⟩).hl w w4):=st.from_drew.from_alloc;have A7:∀i,(w.alloc (.cells #[.int .i64 sp,.int .i64 sl] 173)).drew.frozen? ⟨q.f,i,none⟩=false:=(FO.c h0).free;have Bm:q.next+1<1099511627777:=by have:=ok.lim;omega
 have Ly:=ok.n.next0;have f2':=FO.c2 st.sep;have f2'':w4.cell? ⟨q.f,2,none⟩=some (.int .i64 (q.next+1)):=f2';obtain⟨e00,_⟩:=e0;obtain⟨e10,_⟩:=e1;have x0:(w.alloc (.cells #[.int .i64 sp,.int .i64 sl] 173)).cell? ⟨q.f,0,none⟩=some (.map (some q.m)):=d0;have x1:(w.alloc (.cells #[.int .i64 sp,.int .i64 sl] 173)).cell? ⟨q.f,1,none⟩=some (.map (some q.o)):=d1;have x2:(w.alloc (.cells #[.int .i64 sp,.int .i64 sl] 173)).cell? ⟨q.f,2,none⟩=some (.int .i64 q.next):=d2;have xb0:(w.alloc (.cells #[.int .i64 sp,.int .i64 sl] 173)).cell? ⟨w.heap.size,0,none⟩=some (.int .i64 sp):=b0;have xb1:(w.alloc (.cells #[.int .i64 sp,.int .i64 sl] 173)).cell? ⟨w.heap.size,1,none⟩=some (.int .i64 sl):=b1
 have xf:∀i,(w.alloc (.cells #[.int .i64 sp,.int .i64 sl] 173)).frozen? ⟨q.f,i,none⟩=false:=A7;have y0:((w.alloc (.cells #[.int .i64 sp,.int .i64 sl] 173)).setCell ⟨q.f,2,none⟩ (.int .i64 (q.next+1))).cell? ⟨q.f,0,none⟩=some (.map (some q.m)):=g0;have y2:((w.alloc (.cells #[.int .i64 sp,.int .i64 sl] 173)).setCell ⟨q.f,2,none⟩ (.int .i64 (q.next+1))).cell? ⟨q.f,2,none⟩=some (.int .i64 (q.next+1)):=g2;have z0:(((w.alloc (.cells #[.int .i64 sp,.int .i64 sl] 173)).setCell ⟨q.f,2,none⟩ (.int .i64 (q.next+1))).alloc (.cells #[.int .i64 sp,.int .i64 sl,.int .i64 0,.slice none 0 0] 285)).cell? ⟨q.f,0,none⟩=some (.map (some q.m)):=n0
 have z2:(((w.alloc (.cells #[.int .i64 sp,.int .i64 sl] 173)).setCell ⟨q.f,2,none⟩ (.int .i64 (q.next+1))).alloc (.cells #[.int .i64 sp,.int .i64 sl,.int .i64 0,.slice none 0 0] 285)).cell? ⟨q.f,2,none⟩=some (.int .i64 (q.next+1)):=n2;have r3x:(Instr.mapUpdate 280 (.map (some q.m)) (.int .i64 (q.next+1)) (.pointer (some ⟨w.heap.size+1,0,none⟩))).run prog (((w.alloc (.cells #[.int .i64 sp,.int .i64 sl] 173)).setCell ⟨q.f,2,none⟩ (.int .i64 (q.next+1))).alloc (.cells #[.int .i64 sp,.int .i64 sl,.int .i64 0,.slice none 0 0] 285)).drew.drew=.ok () w3:=r3;clear r3 g0 g2 n0 n2 b0 b1 d0 d1 d2 A7;clear keep st f2' h0 hb h ok hp Aw DJ
 go_enter func105,ntmps105;go_wp2_with fail;refine ka.mono ?_;rintro e w'⟨rfl,rfl⟩;go_wp2_with fail;go_region;go_wp2_with fail;go_region;go_wp2_with fail;go_region;go_wp2_with fail
 (try go_ret2);exact⟨rfl,HS.out⟩
theorem Z7G{w:World}{q:FO}(h:Sep w q.hl)(ok:q.Ok){par:Int}{e:En Nd}(hf:find q.N par=some e){sp sl:Int}(hp:Q1x prog 173 (sp,sl))(Aw:ownN q.N sp sl=0) :
  Calls prog 105 #[.pointer (some ⟨q.f,0,none⟩),.int .i64 par,.int .i64 sp,.int .i64 sl] w fun r w'=>r=.returned (.tuple #[.int .i64 (q.next+1),.int .i64 0])/\∃rv',rvOk rv' (e.q.ks.length+1)/\Step q.hl ((q.app (w.heap.size+1) ⟨sp,sl,par,[]⟩).setN par {e.q with ks:=e.q.ks++[q.next+1]} rv').hl w w':=by
 have ka:=Q3f h hf;have h0:=(h.alloc (.cells #[.int .i64 sp,.int .i64 sl] 173)).drew;have hl:=FO.look_own h0 ok hp;rw[Aw] at hl;have c0:=FO.c0 h;have c1:=FO.c1 h;have c2:=FO.c2 h;have d0:=FO.c0 h0;have d1:=FO.c1 h0;have d2:=FO.c2 h0;have hb:=Cells.new w 173 [.int .i64 sp,.int .i64 sl];obtain⟨w3,w4,r3,r4,st,f0,f1,f2,g0,g2,n0,n2,keep⟩:=FO.appSteps (par:=par) h0 ok hp Aw _ _ rfl rfl;have Be:(w.alloc (.cells #[.int .i64 sp,.int .i64 sl] 173)).drew.heap.size=w.heap.size+1:=by simp[World.drew]
 have DJ:w.heap.size∉keys q.hl:=fun hk=>by have:=h.lt hk;omega
 have b0:(w.alloc (.cells #[.int .i64 sp,.int .i64 sl] 173)).drew.cell? ⟨w.heap.size,0,none⟩=some (.int .i64 sp):=hb.cell 0 _ rfl;have b1:(w.alloc (.cells #[.int .i64 sp,.int .i64 sl] 173)).drew.cell? ⟨w.heap.size,1,none⟩=some (.int .i64 sl):=hb.cell 1 _ rfl;have e0:=keep w.heap.size 0 _ DJ (by omega) b0;have e1:=keep w.heap.size 1 _ DJ (by omega) b1;rw[Be] at r3 st;obtain⟨BO,EZ⟩:=Q0d hf;have Jp:=ok.n.rng e BO;have Ga:find (q.app (w.heap.size+1) ⟨sp,sl,par,[]⟩).N par=some e:=by
  show find (q.N++[_]) par=_;rw[Q7G,hf];rfl
 have Co:(q.app (w.heap.size+1) ⟨sp,sl,par,[]⟩).N.Pairwise (fun a b=>a.id≠b.id):=by
  show(q.N++[_]).Pairwise _;rw[J2l];refine⟨ok.n.ids,by simp,fun x hx y hy=>?_⟩;rw[J3E] at hy;subst hy;have:=ok.n.rng x hx;show x.id≠q.next+1;omega
 have CP:(q.app (w.heap.size+1) ⟨sp,sl,par,[]⟩).kr par=q.kr par:=if_neg (by omega);have AC:=ok.rv e BO;rw[EZ] at AC;have Cm:=ok.n.kids_few BO;have Gl:=ok.few;obtain⟨rv',w5,r5,Cn,k3,kf,st5⟩:=FO.pushK st.sep.drew Co Ga (by rw[CP];exact AC) (by omega) (q.next+1) 38;rw[CP] at r5 k3;have r5x:(Builtin.append_ #[38,38] 38 #[lvOf (q.kr par) e.q.ks.length,.slice (some ⟨w4.heap.size,0,none⟩) 1 1]).run prog (w4.alloc (.cells #[.int .i64 (q.next+1)] 3)).drew=.ok (lvOf rv' (e.q.ks.length+1)) w5:=r5;clear r5;have m3:=(FO.nd st.sep Ga).cell 3 (lvOf ((q.app (w.heap.size+1) ⟨sp,sl,par,[]⟩).kr e.id) e.q.ks.length) rfl
 rw[EZ,CP] at m3;have m2:w4.cell? ⟨q.f,2,none⟩=some (.int .i64 (q.next+1)):=FO.c2 st.sep;have sa:=st.sep.alloc (.cells #[.int .i64 (q.next+1)] 3);have v3:=(FO.nd sa Ga).cell 3 (lvOf ((q.app (w.heap.size+1) ⟨sp,sl,par,[]⟩).kr e.id) e.q.ks.length) rfl;rw[EZ,CP] at v3;have v2:(w4.alloc (.cells #[.int .i64 (q.next+1)] 3)).cell? ⟨q.f,2,none⟩=some (.int .i64 (q.next+1)):=FO.c2 sa;have u2:(w5.setCell ⟨e.b,3,none⟩ (lvOf rv' (e.q.ks.length+1))).cell? ⟨q.f,2,none⟩=some (.int .i64 (q.next+1)):=FO.c2 st5.sep;have HS:Hid (∃rz,rvOk rz (e.q.ks.length+1)/\Step q.hl ((q.app (w.heap.size+1) ⟨sp,sl,par,[]⟩).setN par {e.q with ks:=e.q.ks++[q.next+1]} rz).hl w (w5.setCell ⟨e.b,3,none⟩ (lvOf rv' (e.q.ks.length+1)))):=⟨rv',Cn,(st.trans st5.from_drew).from_drew.from_alloc⟩
 have A7:∀i,(w.alloc (.cells #[.int .i64 sp,.int .i64 sl] 173)).drew.frozen? ⟨q.f,i,none⟩=false:=(FO.c h0).free;have Bm:q.next+1<1099511627777:=by have:=ok.lim;omega
 have Ly:=ok.n.next0;obtain⟨e00,_⟩:=e0;obtain⟨e10,_⟩:=e1;have x0:(w.alloc (.cells #[.int .i64 sp,.int .i64 sl] 173)).cell? ⟨q.f,0,none⟩=some (.map (some q.m)):=d0;have x1:(w.alloc (.cells #[.int .i64 sp,.int .i64 sl] 173)).cell? ⟨q.f,1,none⟩=some (.map (some q.o)):=d1;have x2:(w.alloc (.cells #[.int .i64 sp,.int .i64 sl] 173)).cell? ⟨q.f,2,none⟩=some (.int .i64 q.next):=d2;have xb0:(w.alloc (.cells #[.int .i64 sp,.int .i64 sl] 173)).cell? ⟨w.heap.size,0,none⟩=some (.int .i64 sp):=b0;have xb1:(w.alloc (.cells #[.int .i64 sp,.int .i64 sl] 173)).cell? ⟨w.heap.size,1,none⟩=some (.int .i64 sl):=b1
 have xf:∀i,(w.alloc (.cells #[.int .i64 sp,.int .i64 sl] 173)).frozen? ⟨q.f,i,none⟩=false:=A7;have y0:((w.alloc (.cells #[.int .i64 sp,.int .i64 sl] 173)).setCell ⟨q.f,2,none⟩ (.int .i64 (q.next+1))).cell? ⟨q.f,0,none⟩=some (.map (some q.m)):=g0;have y2:((w.alloc (.cells #[.int .i64 sp,.int .i64 sl] 173)).setCell ⟨q.f,2,none⟩ (.int .i64 (q.next+1))).cell? ⟨q.f,2,none⟩=some (.int .i64 (q.next+1)):=g2;have z0:(((w.alloc (.cells #[.int .i64 sp,.int .i64 sl] 173)).setCell ⟨q.f,2,none⟩ (.int .i64 (q.next+1))).alloc (.cells #[.int .i64 sp,.int .i64 sl,.int .i64 par,.slice none 0 0] 285)).cell? ⟨q.f,0,none⟩=some (.map (some q.m)):=n0
 have z2:(((w.alloc (.cells #[.int .i64 sp,.int .i64 sl] 173)).setCell ⟨q.f,2,none⟩ (.int .i64 (q.next+1))).alloc (.cells #[.int .i64 sp,.int .i64 sl,.int .i64 par,.slice none 0 0] 285)).cell? ⟨q.f,2,none⟩=some (.int .i64 (q.next+1)):=n2;have r3x:(Instr.mapUpdate 280 (.map (some q.m)) (.int .i64 (q.next+1)) (.pointer (some ⟨w.heap.size+1,0,none⟩))).run prog (((w.alloc (.cells #[.int .i64 sp,.int .i64 sl] 173)).setCell ⟨q.f,2,none⟩ (.int .i64 (q.next+1))).alloc (.cells #[.int .i64 sp,.int .i64 sl,.int .i64 par,.slice none 0 0] 285)).drew.drew=.ok () w3:=r3;clear r3 g0 g2 n0 n2 b0 b1 d0 d1 d2 A7
 obtain⟨va,vk,vc,hV⟩:∃a k c,lvOf rv' (e.q.ks.length+1)=.slice a k c:=by
  cases rv' with
  | none=>exact⟨_,_,_,rfl⟩
  | some p=>exact⟨_,_,_,rfl⟩
 rw[hV] at r5x u2 HS;clear hV;generalize lvOf (q.kr par) e.q.ks.length=V at *
 have HR:=Q0a r5x;clear r5x;clear keep st sa st5 Ga Co CP AC Cm Gl BO EZ Jp hf h0 hb h ok hp Aw DJ;go_enter func105,ntmps105;go_wp2_with fail;refine ka.mono ?_;rintro e w'⟨rfl,rfl⟩;go_wp2_with fail;go_region;go_wp2_with fail;go_region;go_wp2_with fail;go_region;go_wp2_with fail
 go_region_law (refine Q0B rfl _ _ 38 38 rfl _ _ (by simp[Act.eval]) (by simp[Act.eval]) HR.out ?_)
 all_goals
  go_wp2_with fail
  (try go_ret2);exact⟨rfl,HS.out⟩
theorem Z5c{q:FO}(ok:q.Ok)(b:Nat)(sp sl:Int):(q.app b ⟨sp,sl,0,[]⟩).N=addN q.N 0 (q.next+1) b sp sl:=by
 unfold addN;rw[Q9O fun c hc=>if_neg (by have:=ok.n.rng c hc;omega)];rfl
theorem Z7H{q:FO}(ok:q.Ok){par:Int}{e:En Nd}(hf:find q.N par=some e)(b:Nat)(sp sl:Int)(rv:RV) :
  ((q.app b ⟨sp,sl,par,[]⟩).setN par {e.q with ks:=e.q.ks++[q.next+1]} rv).N=addN q.N par (q.next+1) b sp sl:=by
 obtain⟨he,hid⟩:=Q0d hf;have hr:=ok.n.rng e he;show mapE _ (q.N++[_])=_;unfold addN mapE;rw[J4Z];congr 1
 ·refine J3G fun c hc=>?_
  by_cases h:c.id=par
  ·have:c=e:=by
    have:=Q0r ok.n.ids hc;rw[h,hf] at this;cases this;rfl
   subst this;simp only[h,if_true]
  ·simp only[h,if_false]
 ·have Ac:¬(q.next+1=par):=by omega
  simp only[J1H,J4d,Ac,if_false]
structure Z0Y(q:FO)(par sp sl:Int)(q':FO):Prop where
 f:q'.f=q.f
 m:q'.m=q.m
 o:q'.o=q.o
 N:∃b,q'.N=addN q.N par (q.next+1) b sp sl
 next:q'.next=q.next+1
 ok:q'.Ok
theorem Q7J{w:World}{q:FO}(h:Sep w q.hl)(ok:q.Ok){par sp sl:Int}(Bu:par=0∨∃e,find q.N par=some e)(h1:0<=sp)(h2:sp<4294967296)(h3:0<=sl)(h4:sl<256)(Aw:ownN q.N sp sl=0)(hlim:q.next+1<1099511627776)(Cm:q.N.length<65536) :
  Calls prog 105 #[.pointer (some ⟨q.f,0,none⟩),.int .i64 par,.int .i64 sp,.int .i64 sl] w fun r w'=>r=.returned (.tuple #[.int .i64 (q.next+1),.int .i64 0])/\∃q':FO,Z0Y q par sp sl q'/\Step q.hl q'.hl w w':=by
 have hp:=Q5L (p:=(sp,sl)) h1 (by show sp<_;omega) h3 (by show sl<_;omega);have Ab:∀b,(addN q.N par (q.next+1) b sp sl).length<=65536:=fun b=>by
  unfold addN mapE;rw[J2j,J3g,J5u];omega
 have hn:∀b,NOk (addN q.N par (q.next+1) b sp sl) (q.next+1):=fun b=>ok.n.add b Bu ((Q5M ok.n).1 Aw) h1 h2 h3 h4
 rcases Bu with rfl|⟨e,hf⟩
 ·refine(Z5b h ok hp Aw).mono ?_;rintro r w'⟨rfl,st⟩;have eN:=Z5c ok (w.heap.size+1) sp sl;refine⟨rfl,q.app (w.heap.size+1) ⟨sp,sl,0,[]⟩,⟨rfl,rfl,rfl,⟨_,eN⟩,rfl,⟨by rw[eN];exact hn _,hlim,fun c hc=>?_,by rw[eN];exact Ab _⟩⟩,st⟩;rcases J2m.1 (show c∈q.N++[_] from hc) with hc|hc
  ·have:=ok.n.rng c hc;have hk:(q.app (w.heap.size+1) ⟨sp,sl,0,[]⟩).kr c.id=q.kr c.id:=if_neg (by omega);rw[hk];exact ok.rv c hc
  ·rw[J3E] at hc;subst hc;have hk:(q.app (w.heap.size+1) ⟨sp,sl,0,[]⟩).kr (q.next+1)=none:=if_pos rfl;show rvOk ((q.app (w.heap.size+1) ⟨sp,sl,0,[]⟩).kr (q.next+1)) 0;rw[hk];rfl
 ·refine(Z7G h ok hf hp Aw).mono ?_;rintro r w'⟨rfl,rv,AC,st⟩;have eN:=Z7H ok hf (w.heap.size+1) sp sl rv;obtain⟨he,hid⟩:=Q0d hf;have hr:=ok.n.rng e he;refine⟨rfl,(q.app (w.heap.size+1) ⟨sp,sl,par,[]⟩).setN par {e.q with ks:=e.q.ks++[q.next+1]} rv,⟨rfl,rfl,rfl,⟨_,eN⟩,rfl,⟨by rw[eN];exact hn _,hlim,fun c hc=>?_,by rw[eN];exact Ab _⟩⟩,st⟩;obtain⟨d,hd,rfl⟩:=Q1r (show c∈mapE _ (q.N++[_]) from hc);by_cases E4:d.id=par
  ·have hk:((q.app (w.heap.size+1) ⟨sp,sl,par,[]⟩).setN par {e.q with ks:=e.q.ks++[q.next+1]} rv).kr d.id=rv:=if_pos E4;show rvOk (((q.app (w.heap.size+1) ⟨sp,sl,par,[]⟩).setN par {e.q with ks:=e.q.ks++[q.next+1]} rv).kr d.id) (if d.id=par then({e.q with ks:=e.q.ks++[q.next+1]}:Nd) else d.q).ks.length;rw[hk,if_pos E4]
   simpa using AC
  ·have hk:((q.app (w.heap.size+1) ⟨sp,sl,par,[]⟩).setN par {e.q with ks:=e.q.ks++[q.next+1]} rv).kr d.id=(q.app (w.heap.size+1) ⟨sp,sl,par,[]⟩).kr d.id:=if_neg E4;show rvOk (((q.app (w.heap.size+1) ⟨sp,sl,par,[]⟩).setN par {e.q with ks:=e.q.ks++[q.next+1]} rv).kr d.id) (if d.id=par then({e.q with ks:=e.q.ks++[q.next+1]}:Nd) else d.q).ks.length;rw[hk,if_neg E4];rcases J2m.1 hd with hd|hd
   ·have:=ok.n.rng d hd;have Av:(q.app (w.heap.size+1) ⟨sp,sl,par,[]⟩).kr d.id=q.kr d.id:=if_neg (by omega);rw[Av];exact ok.rv d hd
   ·rw[J3E] at hd;subst hd;have Av:(q.app (w.heap.size+1) ⟨sp,sl,par,[]⟩).kr (q.next+1)=none:=if_pos rfl;show rvOk ((q.app (w.heap.size+1) ⟨sp,sl,par,[]⟩).kr (q.next+1)) 0;rw[Av];rfl
structure Alt0(S S':CO):Prop where
 c:S'.c=S.c
 t:S'.t=S.t
 l:S'.l=S.l
 g:S'.g=S.g
 per:S'.period=S.period
 now:S'.now=S.now
 rv:S'.rv=S.rv
 ts:S'.ts=S.ts
 same:SameP S.P S'.P
 next:S'.P.q.next=S.P.q.next
 acc:∀id e,find S.P.q.E id=some e->∃e',find S'.P.q.E id=some e'/\e'.q={e.q with charged:=e'.q.charged}
 ids:S'.P.q.E.map En.id=S.P.q.E.map En.id
 kept:∀r∈S.l,r.is=true->r.kind≠2->Kept S.P.a.mem S'.P.a.mem r.at_ (costK r.kind)
theorem Alt.alt0{S S':CO}{own:Int}(h:Alt S S' own):Alt0 S S':=⟨h.c,h.t,h.l,h.g,h.per,h.now,h.rv,h.ts,h.same,h.next,fun id e he=>by
 obtain⟨e',a,b,_⟩:=h.acc id e he;exact⟨e',a,b⟩,h.ids,h.kept⟩
theorem Alt0.refl(S:CO):Alt0 S S:=(Alt.refl S 0).alt0
theorem Alt0.trans{S S1 S2:CO}(h:Alt0 S S1)(k:Alt0 S1 S2):Alt0 S S2:=by
 refine⟨k.c.trans h.c,k.t.trans h.t,k.l.trans h.l,k.g.trans h.g,k.per.trans h.per,k.now.trans h.now,k.rv.trans h.rv,k.ts.trans h.ts,h.same.trans k.same,k.next.trans h.next,fun id e he=>?_,k.ids.trans h.ids,fun r hr hi hk=>?_⟩
 ·obtain⟨e1,a1,a2⟩:=h.acc id e he;obtain⟨e2,b1,b2⟩:=k.acc id e1 a1;refine⟨e2,b1,?_⟩;rw[b2,a2]
 ·exact(h.kept r hr hi hk).trans (k.kept r (by rw[h.l];exact hr) hi hk)
structure SP where
 s:Nat
 S:CO
 tb:Nat->TB
 F:FO
def SP.head(Z:SP):Nat×(Obj->Prop):=(Z.s,isC 183 [ptr Z.S.c,ptr Z.F.f])
def SP.hl(Z:SP):HL:=Z.head::(Z.S.hl++Z.F.hl)
structure SP.Ok(Z:SP)(fr:List Nat)(N K:Nat)(M:Int):Prop where
 core:Z.S.Ok fr N K
 tpi:TPI Z.S Z.tb
 fpi:FPI Z.S.l Z.tb Z.F.N
 fo:Z.F.Ok
 next:Z.F.next<=M
def SP.av(Z:SP):AV:=avOf Z.S.l Z.tb Z.F.N
structure SameN(Z Z':SP):Prop where
 s:Z'.s=Z.s
 alt:Alt0 Z.S Z'.S
 f:Z'.F.f=Z.F.f
theorem SameN.refl(Z:SP):SameN Z Z:=⟨rfl,Alt0.refl _,rfl⟩
theorem SameN.trans{Z Z1 Z2:SP}(h:SameN Z Z1)(k:SameN Z1 Z2):SameN Z Z2:=⟨k.s.trans h.s,h.alt.trans k.alt,k.f.trans h.f⟩
structure SameZ(Z Z':SP):Prop extends SameN Z Z' where
 nx:Z'.F.next=Z.F.next
theorem SameZ.refl(Z:SP):SameZ Z Z:=⟨SameN.refl Z,rfl⟩
theorem SameZ.trans{Z Z1 Z2:SP}(h:SameZ Z Z1)(k:SameZ Z1 Z2):SameZ Z Z2:=⟨h.toSameN.trans k.toSameN,k.nx.trans h.nx⟩
def SP.setS(Z:SP)(S:CO)(tb:Nat->TB):SP:={Z with S:=S,tb:=tb}
def SP.setF(Z:SP)(F:FO):SP:={Z with F:=F}
theorem SP.permS(Z:SP):Z.hl.Perm (Z.S.hl++(Z.head::Z.F.hl)):=by
 unfold SP.hl;exact J5a.symm
theorem SP.permF(Z:SP):Z.hl.Perm (Z.F.hl++(Z.head::Z.S.hl)):=by
 unfold SP.hl;refine(List.Perm.cons _ J4l).trans ?_;exact J5a.symm
section
variable {w:World} {Z:SP}
theorem SP.sS(h:Sep w Z.hl):Sep w Z.S.hl:=h.part Z.permS
theorem SP.sF(h:Sep w Z.hl):Sep w Z.F.hl:=h.part Z.permF
theorem SP.cells(h:Sep w Z.hl):Cells w Z.s 183 [ptr Z.S.c,ptr Z.F.f]:=h.cells (by simp[SP.hl,SP.head])
theorem SP.c0(h:Sep w Z.hl):w.cell? ⟨Z.s,0,none⟩=some (.pointer (some ⟨Z.S.c,0,none⟩)):=(SP.cells h).cell 0 _ rfl
theorem SP.c1(h:Sep w Z.hl):w.cell? ⟨Z.s,1,none⟩=some (.pointer (some ⟨Z.F.f,0,none⟩)):=(SP.cells h).cell 1 _ rfl
end
theorem SP.stepS{w w':World}{Z:SP}(h:Sep w Z.hl)(S':CO)(tb':Nat->TB)(e:S'.c=Z.S.c)(s:Step Z.S.hl S'.hl w w'):Step Z.hl (Z.setS S' tb').hl w w':=by
 have hp:=(Z.setS S' tb').permS;have e1:(Z.setS S' tb').head=Z.head:=by unfold SP.head SP.setS;rw[e]
 rw[e1] at hp;exact Step.lift Z.permS hp h s
theorem SP.stepF{w w':World}{Z:SP}(h:Sep w Z.hl)(F':FO)(e:F'.f=Z.F.f)(s:Step Z.F.hl F'.hl w w'):Step Z.hl (Z.setF F').hl w w':=by
 have hp:=(Z.setF F').permF;have e1:(Z.setF F').head=Z.head:=by unfold SP.head SP.setF;rw[e]
 rw[e1] at hp;exact Step.lift Z.permF hp h s
theorem SP.Ok.mono{Z:SP}{fr:List Nat}{N N' K K':Nat}{M M':Int}(ok:Z.Ok fr N K M)(h1:N<=N')(h2:K<=K')(h3:M<=M'):Z.Ok fr N' K' M':=⟨ok.core.mono h1 h2,ok.tpi,ok.fpi,ok.fo,by have:=ok.next;omega⟩
theorem FPI.rights{l:List Pl}{tb:Nat->TB}{N:List (En Nd)}(f:FPI l tb N){h s:Nat}{x:Nat×Nat}(hx:(avOf l tb N).en h s=some x):1<=x.2/\x.2<16:=by
 unfold avOf at hx;simp only at hx;cases he:Q0g l tb h s with
 | none=>rw[he] at hx;cases hx
 | some e =>
  rw[he] at hx;cases hx;have:=(f.cap h s e he).r;exact⟨this.1,by show e.r<16;omega⟩
theorem FPI.task{l:List Pl}{tb:Nat->TB}{N:List (En Nd)}(f:FPI l tb N){next:Int}(ok:NOk N next){n:En Nd}(hn:n∈N):∃(h s:Nat) (p:Pl) (e:Ent),n.q.sp=(h:Int)/\n.q.sl=(s:Int)/\h<4294967296/\s<256/\pget l 1 h=some p/\p.kind=2/\(tb (h%256)).en s=some e/\Q0g l tb h s=some e:=by
 obtain⟨e,he⟩:=f.is n hn;have hs:=ok.sm n hn;unfold Q0F at he;obtain⟨p,p1,p2,p3,p4⟩:=Z2j he;exact⟨n.q.sp.toNat,n.q.sl.toNat,p,e,by omega,by omega,by omega,p3,p1,p2,p4,he⟩
theorem FPI.own{l:List Pl}{tb:Nat->TB}{N:List (En Nd)}(f:FPI l tb N){next:Int}(ok:NOk N next){h s:Nat}{e:Ent}(he:Q0g l tb h s=some e):∃n∈N,n.q.sp=(h:Int)/\n.q.sl=(s:Int)/\ownN N (h:Int) (s:Int)=n.id/\find N n.id=some n:=by
 obtain⟨n,h1,h2,h3⟩:=f.has h s e he;refine⟨n,h1,h2,h3,?_,Q0r ok.ids h1⟩;rw[<- h2,<- h3];exact Z4Z ok h1
theorem FPI.free{l:List Pl}{tb:Nat->TB}{N:List (En Nd)}(f:FPI l tb N){next:Int}(ok:NOk N next){h s:Nat}(he:Q0g l tb h s=none):ownN N (h:Int) (s:Int)=0:=by
 refine(Q5M ok).2 fun n hn hx=>?_
 obtain⟨e,h2⟩:=f.is n hn;simp only[Prod.mk.injEq] at hx;unfold Q0F at h2;rw[hx.1,hx.2,J2C,J2C,he] at h2;cases h2
theorem FPI.few{l:List Pl}{tb:Nat->TB}{N:List (En Nd)}(f:FPI l tb N){next:Int}(ok:NOk N next){h s:Nat}{p:Pl}(hp:pget l 1 h=some p)(hs:s<256)(he:Q0g l tb h s=none):N.length<65536:=by
 have key:∀n∈N,∃p s,pget l 1 n.q.sp.toNat=some p/\n.q.sl=((s:Nat):Int)/\s<256:=fun n hn=>by
  obtain⟨h',s',p',e',h1,h2,_,h3,h4,_⟩:=f.task ok hn;exact⟨p',s',by rw[h1,J2C];exact h4,h2,h3⟩
 have OI:∀n∈N,n.q.sp.toNat%256*256+n.q.sl.toNat<65536:=fun n hn=>by
  obtain⟨p',s',_,h2,h3⟩:=key n hn;omega
 have inj:∀a∈N,∀b∈N,a.q.sp.toNat%256*256+a.q.sl.toNat=b.q.sp.toNat%256*256+b.q.sl.toNat->a=b:=fun a ha b hb hc=>by
  obtain⟨pa,sa,a1,a2,a3⟩:=key a ha;obtain⟨pb,sb,b1,b2,b3⟩:=key b hb;have e1:a.q.sp.toNat%256=b.q.sp.toNat%256:=by omega
  obtain⟨e2,_,_⟩:=Q5k a1 b1 e1;have FP:=ok.sm a ha;have Aj:=ok.sm b hb;exact Q4B ok ha hb (by omega) (by omega)
 have nd:(N.map fun n=>n.q.sp.toNat%256*256+n.q.sl.toNat).Nodup:=by
  refine J2h.2 ?_;refine(List.Pairwise.and_mem.1 ok.ids).imp ?_;rintro a b⟨ha,hb,EI⟩ hc;exact EI (by rw[inj a ha b hb hc])
 have EM:h%256*256+s∉N.map fun n=>n.q.sp.toNat%256*256+n.q.sl.toNat:=fun hm=>by
  obtain⟨n,hn,hc⟩:=J1K.1 hm;obtain⟨p',s',h1,h2,h3⟩:=key n hn;have e1:n.q.sp.toNat%256=h%256:=by omega
  obtain⟨e2,_,_⟩:=Q5k h1 hp e1;obtain⟨e,h4⟩:=f.is n hn;unfold Q0F at h4;rw[e2,show n.q.sl.toNat=s by omega,he] at h4;cases h4
 have Oo:∀B,(∀x∈(h%256*256+s)::N.map fun n=>n.q.sp.toNat%256*256+n.q.sl.toNat,x<B)->((h%256*256+s)::N.map fun n=>n.q.sp.toNat%256*256+n.q.sl.toNat).length<=B:=fun B hB=>Q8c B _ (J2t.2 ⟨EM,nd⟩) hB
 have:=Oo 65536 fun x hx=>by
  rcases J1J.1 hx with rfl|hx
  ·omega
  ·obtain⟨n,hn,rfl⟩:=J1K.1 hx;exact OI n hn
 rw[J2k,J3g] at this;omega
structure TurnP(S:CO)(fr:List Nat)(N K:Nat)(tb:Nat->TB)(own:Int)(i s:Nat)(o:Option Ent)(S':CO)(t':TB):Prop where
 ok:S'.Ok fr N K
 tpi:TPI S' (updT tb i t')
 en:∀x,t'.en x=if x=s then o else(tb i).en x
 lf:∀k,(tb i).lf k=0∨t'.lf k=0∨t'.lf k=(tb i).lf k
 alt:Alt S S' own
def J0W(S:CO)(fr:List Nat)(N K:Nat)(tb:Nat->TB)(own:Int)(i s:Nat)(o:Option Ent)(w w':World):Prop:=∃S' t',TurnP S fr N K tb own i s o S' t'/\Step S.hl S'.hl w w'
theorem Q5N{l:List Pl}{tb:Nat->TB}(N N':List (En Nd)){h s:Nat}{p:Pl}(hp:pget l 1 h=some p)(hk:p.kind=2)(hs:s<256){t':TB}{o:Option Ent}(ht:∀x,t'.en x=if x=s then o else(tb (h%256)).en x) :
  avOf l (updT tb (h%256) t') N'=⟨setA (avOf l tb N).en h s (o.map Ent.c),N'⟩:=by
 unfold avOf setA;congr 1;funext h' s';rw[Q3d hp hk hs ht];split <;> rfl
theorem Z5d{l:List Pl}{tb:Nat->TB}{N:List (En Nd)}{h s:Nat}{e:Ent}(he:Q0g l tb h s=some e):(avOf l tb N).en h s=some (e.h,e.r):=by
 unfold avOf;simp only[he];rfl
theorem av_none{l:List Pl}{tb:Nat->TB}{N:List (En Nd)}{h s:Nat}:(avOf l tb N).en h s=none↔Q0g l tb h s=none:=by
 unfold avOf;simp
theorem Q7K{l:List Pl}{tb:Nat->TB}{N:List (En Nd)}{h s:Nat}{x:Nat×Nat}(hx:(avOf l tb N).en h s=some x):∃e,Q0g l tb h s=some e/\x=(e.h,e.r):=by
 unfold avOf at hx;simp only at hx;cases he:Q0g l tb h s with
 | none=>rw[he] at hx;cases hx
 | some e=>rw[he] at hx;cases hx;exact⟨e,rfl,rfl⟩
theorem Q4C{m:Nat}{a:AV}{id:Int}{n:En Nd}(hf:find a.N id=some n){h s:Nat}(h1:n.q.sp=(h:Int))(h2:n.q.sl=(s:Int)){x:Nat×Nat}(hx:a.en h s=some x) :
  Q1Q m a id=if less x.2 m=0 then(⟨setA a.en h s none,Q0E a.N n n.q.ks.length⟩,true) else(⟨setA a.en h s (some (x.1,less x.2 m)),a.N⟩,false):=by
 unfold Q1Q;rw[hf];simp only[h1,h2,J2C,hx]
section
variable {Z:SP} {fr:List Nat} {N K:Nat} {M:Int}
theorem SP.Ok.weakened(ok:Z.Ok fr N K M){id:Int}{n:En Nd}(hf:find Z.F.N id=some n){h s:Nat}{p:Pl}{e:Ent}(h1:n.q.sp=(h:Int))(h2:n.q.sl=(s:Int))(hp:pget Z.S.l 1 h=some p)(hk:p.kind=2)(hs:s<256)(he:Q0g Z.S.l Z.tb h s=some e){m:Nat}(hm:m<16)(h0:less e.r m≠0)
  (hd:Q3e m Z.av [] id) {S':CO} {t':TB} (T:TurnP Z.S fr N K Z.tb (p.fac:Int) (h%256) s (some ⟨e.h,less e.r m,e.nd⟩) S' t') :
  (Z.setS S' (updT Z.tb (h%256) t')).Ok fr N K M/\Q1Q m Z.av id=((Z.setS S' (updT Z.tb (h%256) t')).av,false)/\SameZ Z (Z.setS S' (updT Z.tb (h%256) t')):=by
 have hr:=(ok.fpi.cap h s e he).r;obtain⟨a1,a2,a3⟩:=Q5g e.r (by omega) m hm;have hl:=T.alt.l;have Dh:=Q5N Z.F.N Z.F.N hp hk hs T.en;refine⟨⟨T.ok,T.tpi,?_,ok.fo,ok.next⟩,?_,⟨⟨rfl,T.alt.alt0,rfl⟩,rfl⟩⟩
 ·show FPI S'.l _ Z.F.N;rw[hl];refine ok.fpi.weak ok.fo.n hp hk hs he T.en rfl ⟨by show 1<=less e.r m;omega,by show less e.r m<=15;omega⟩ a2 fun c hc d Dd e1 e2 x hx=>?_
  -- d is the node itself
  obtain⟨d1,d2⟩:=Q0d Dd;obtain⟨n1,n2⟩:=Q0d hf;have Tb:d=n:=Q4B ok.fo.n d1 n1 (by rw[e1,h1]) (by rw[e2,h2]);subst Tb;obtain⟨q1,q2⟩:=ok.fo.n.par c hc;have Bu:c.q.par=d.id:=d2.symm;obtain⟨pp,p1,p2⟩:=q2 (by have:=ok.fo.n.rng d n1;omega);rw[Dd] at p1;cases p1;have Te:=ok.fpi.up c hc d Dd x e hx (by
   unfold Q0F;rw[h1,h2,J2C,J2C];exact he)
  have VL:1<=x.r/\x.r<=15:=by
   obtain⟨ch,cs,cp,ce,c1,c2,c3,c4,c5,c6,c7,c8⟩:=ok.fpi.task ok.fo.n hc;unfold Q0F at hx;rw[c1,c2,J2C,J2C,c8] at hx;cases hx;exact(ok.fpi.cap _ _ _ c8).r
  rcases hd d hf c.id p2 with hz|hz
  ·cases hz
  ·have Fb:=hz c (Q0r ok.fo.n.ids hc) (x.h,x.r) (Z5d hx);exact Z7z x.r (by omega) e.r (by omega) m hm Te.2 Fb
 ·rw[Q4C (a:=Z.av) hf h1 h2 (Z5d he)];simp only;rw[if_neg h0];congr 1;show _=avOf S'.l (updT Z.tb (h%256) t') Z.F.N;rw[hl,Dh];rfl
theorem SP.Ok.lifted(ok:Z.Ok fr N K M){id:Int}{n:En Nd}(hf:find Z.F.N id=some n){h s:Nat}{p:Pl}{e:Ent}(h1:n.q.sp=(h:Int))(h2:n.q.sl=(s:Int))(hp:pget Z.S.l 1 h=some p)(hk:p.kind=2)(hs:s<256)(he:Q0g Z.S.l Z.tb h s=some e){m:Nat}(h0:less e.r m=0)
  {S':CO} {t':TB} (T:TurnP Z.S fr N K Z.tb (p.fac:Int) (h%256) s none S' t') {F':FO} (hF:F'.N=Q0E Z.F.N n n.q.ks.length) (Ew:F'.Ok) (Ii:F'.next=Z.F.next) (FL:F'.f=Z.F.f) :
  ((Z.setF F').setS S' (updT Z.tb (h%256) t')).Ok fr N K M/\Q1Q m Z.av id=(((Z.setF F').setS S' (updT Z.tb (h%256) t')).av,true)/\SameZ Z ((Z.setF F').setS S' (updT Z.tb (h%256) t')):=by
 have hl:=T.alt.l;have Dh:=Q5N Z.F.N F'.N hp hk hs T.en;obtain⟨n1,n2⟩:=Q0d hf;refine⟨⟨T.ok,T.tpi,?_,Ew,by show F'.next<=M;rw[Ii];exact ok.next⟩,?_,⟨⟨rfl,T.alt.alt0,FL⟩,Ii⟩⟩
 ·show FPI S'.l _ F'.N;rw[hl,hF];exact ok.fpi.lift ok.fo.n hp hk hs T.en (by rw[n2];exact hf) h1 h2
 ·rw[Q4C (a:=Z.av) hf h1 h2 (Z5d he)];simp only;rw[if_pos h0];congr 1;show _=avOf S'.l (updT Z.tb (h%256) t') F'.N;rw[hl,Dh,hF];rfl
theorem SP.Ok.added(ok:Z.Ok fr N K M){h s:Nat}{p:Pl}(hp:pget Z.S.l 1 h=some p)(hk:p.kind=2)(hs:s<256)(h0:Q0g Z.S.l Z.tb h s=none){e:Ent}(hc:Q6q Z.S.l s e)
  {S':CO} {t':TB} (T:TurnP Z.S fr N K Z.tb (p.fac:Int) (h%256) s (some e) S' t') {par:Int} (Bu:par=0∨∃m em,find Z.F.N par=some m/\Q0F Z.S.l Z.tb m=some em/\e.h=em.h/\e.r&&&em.r=e.r) {F':FO} (A:Z0Y Z.F par (h:Int) (s:Int) F') :
  ((Z.setF F').setS S' (updT Z.tb (h%256) t')).Ok fr N K (M+1)/\SameN Z ((Z.setF F').setS S' (updT Z.tb (h%256) t'))/\((Z.setF F').setS S' (updT Z.tb (h%256) t')).av.en=setA Z.av.en h s (some (e.h,e.r))/\∃b,((Z.setF F').setS S' (updT Z.tb (h%256) t')).av.N=addN Z.F.N par (Z.F.next+1) b (h:Int) (s:Int):=by
 have hl:=T.alt.l;obtain⟨b,hN⟩:=A.N;have Dh:=Q5N Z.F.N F'.N hp hk hs T.en;have Gq:((Z.setF F').setS S' (updT Z.tb (h%256) t')).av=⟨setA Z.av.en h s ((some e).map Ent.c),F'.N⟩:=by
  show avOf S'.l (updT Z.tb (h%256) t') F'.N=_;rw[hl,Dh];rfl
 refine⟨⟨T.ok,T.tpi,?_,A.ok,by show F'.next<=M+1;rw[A.next];have:=ok.next;omega⟩,⟨rfl,T.alt.alt0,A.f⟩,by rw[Gq];rfl,b,by rw[Gq];exact hN⟩;show FPI S'.l _ F'.N;rw[hl,hN];exact ok.fpi.add ok.fo.n hp hk hs h0 T.en hc b Bu
end
theorem Q2s(w:World)(z:Int):Calls prog 92 #[.int .i64 z] w fun r w'=>r=.returned (.bool (decide (0<=z/\z<256)))/\w=w':=by
 by_cases h0:0<=z
 ·by_cases h1:z<256
  ·rw[decide_eq_true (show 0<=z/\z<256 from⟨h0,h1⟩)];go_enter func92,ntmps92
   go_wp2
   go_ret;exact⟨rfl,rfl⟩
  ·rw[decide_eq_false (show ¬(0<=z/\z<256) from fun h=>h1 h.2)];have hd:decide (z<256)=false:=by simpa using h1
   go_enter func92,ntmps92
   go_wp2
   go_ret;exact⟨rfl,rfl⟩
 ·rw[decide_eq_false (show ¬(0<=z/\z<256) from fun h=>h0 h.1)];have hd:decide (0<=z)=false:=by simpa using h0
  go_enter func92,ntmps92
  go_wp2
  go_ret;exact⟨rfl,rfl⟩
theorem Q3g(w:World)(z:Int):Calls prog 106 #[.int .i64 z] w fun r w'=>r=.returned (.bool (decide (0<z/\z<=15)))/\w=w':=by
 by_cases h0:0<z
 ·by_cases h1:z<=15
  ·rw[decide_eq_true (show 0<z/\z<=15 from⟨h0,h1⟩)];go_enter func106,ntmps106
   go_wp2
   go_ret;exact⟨rfl,rfl⟩
  ·rw[decide_eq_false (show ¬(0<z/\z<=15) from fun h=>h1 h.2)];have hd:decide (z<=15)=false:=by simpa using h1
   go_enter func106,ntmps106
   go_wp2
   go_ret;exact⟨rfl,rfl⟩
 ·rw[decide_eq_false (show ¬(0<z/\z<=15) from fun h=>h0 h.1)];have hd:decide (0<z)=false:=by simpa using h0
  go_enter func106,ntmps106
  go_wp2
  go_ret;exact⟨rfl,rfl⟩
theorem Q2e(w:World)(z:Int):Calls prog 96 #[.int .i64 z] w fun r w'=>r=.returned (.bool (decide (z<128)))/\w=w':=by
 go_enter func96,ntmps96
 go_wp2
 go_ret;exact⟨rfl,rfl⟩
theorem Z7I(h r:Nat)(hh:h<4294967295)(hr:r<16):bits .or .u64 ((h:Int)+1) ((r:Int)*4294967296)=(((⟨h,r,0⟩:Ent).a:Nat):Int):=by
 have e1:((h:Int)+1)=((h+1:Nat):Int):=by omega
 have e2:((r:Int)*4294967296)=((r*4294967296:Nat):Int):=by omega
 rw[e1,e2,u64_or_nat _ _ (by omega) (by omega)];unfold Ent.a;have:(h+1)|||(r*4294967296)=h+1+4294967296*r:=by
  rw[J4R,nat_join 32 (r*4294967296) (h+1) (by omega) (by omega)];omega
 rw[this]
theorem Z9W(h r:Nat)(hh:h<4294967295)(hr:r<16):bits .and .u64 ((((⟨h,r,0⟩:Ent).a:Nat):Int)) 4294967295=((h+1:Nat):Int):=by
 unfold Ent.a;have:=u64_and_nat (h+1+4294967296*r) 4294967295 (by omega) (by omega);rw[show((4294967295:Nat):Int)=4294967295 from rfl] at this;rw[show(⟨h,r,0⟩:Ent).h=h from rfl,show(⟨h,r,0⟩:Ent).r=r from rfl,this,J3c _ 32];omega
theorem Z7J(h r:Nat)(hh:h<4294967295):(((⟨h,r,0⟩:Ent).a:Nat):Int)/4294967296=(r:Int):=by
 unfold Ent.a;show((h+1+4294967296*r:Nat):Int)/4294967296=(r:Int);omega
theorem J1u(e:Ent):e.a=(⟨e.h,e.r,0⟩:Ent).a:=rfl
def capV:Option Ent->Value
 | none=>.tuple #[.agg #[.int .u32 0,.int .i64 0],.bool false]
 | some e=>.tuple #[.agg #[.int .u32 (e.h:Int),.int .i64 (e.r:Int)],.bool true]
def Ent.Low(e:Ent):Prop:=e.h<4294967295/\e.r<16
theorem Q1s{w:World}{S:CO}{t:TB}{p:Pl}{g:Nat}(T:TT S t p g w)(x f z:Int)(JV:∀e,t.at' z=some e->e.Low) :
  Calls prog 93 #[.agg #[.pointer (some ⟨g,0,none⟩),.int .u32 x,.int .i64 f],.int .i64 z] w (Told w (capV (t.at' z))):=by
 have Ae:Below w.heap.size w ((w.alloc (.cells #[.pointer (some ⟨g,0,none⟩),.int .u32 x,.int .i64 f] 191)).alloc (.cells #[.int .u32 0,.int .i64 0] 72)):=((Below.refl _ _).alloc (J1E _) _).alloc (by simp) _;have kg:=Q4d (T.grown Ae) z;have hA:=(Cells.new w 191 [.pointer (some ⟨g,0,none⟩),.int .u32 x,.int .i64 f]).alloc (.cells #[.int .u32 0,.int .i64 0] 72);have a0:=hA.cell 0 _ rfl;have HE:Hid (∀o,Below w.heap.size w ((w.alloc (.cells #[.pointer (some ⟨g,0,none⟩),.int .u32 x,.int .i64 f] 191)).alloc o)):=fun o=>((Below.refl _ _).alloc (J1E _) _).alloc (by simp) o
 cases ho:t.at' z with
 | none =>
  rw[ho] at kg;unfold getV Q0t Q0T at kg;simp only[capV];clear T JV ho hA Ae;go_enter func93,ntmps93;go_wp2_with fail;refine kg.mono ?_;rintro r w1⟨rfl,rfl⟩;go_wp2_with fail;refine bodyPost_ret (v:=.tuple #[.agg #[.int .u32 0,.int .i64 0],.bool false]) (by simp[results,results93,go_sem]) rfl ⟨rfl,HE.out _⟩
 | some e =>
  obtain⟨l1,l2⟩:=JV e ho;rw[ho] at kg;simp only[getV,Q0t] at kg;simp only[capV];have h1:=Z9W e.h e.r l1 l2;have h2:=Z7J e.h e.r l1;have Ac:((e.a:Nat):Int)≠0:=by unfold Ent.a;omega
  have GY:(((e.a:Nat):Int)==0)=false:=by simpa using Ac
  rw[<- J1u] at h1 h2;have Hj:(bits .and .u64 ((e.a:Nat):Int) 4294967295-1)%4294967296=(e.h:Int):=by rw[h1];omega
  have Gb:((e.a:Nat):Int)/4294967296=(e.r:Int):=h2;have Ve:=Q0a Hj;have Vz:=Q0a Gb;clear Hj Gb h1 h2;have Aa:e.a<18446744073709551616:=by unfold Ent.a;omega
  generalize Q0T (some e)=cb at *
  generalize e.a=ca at *
  generalize e.h=eh at *
  generalize e.r=er at *
  have TF:(0:Int)<=(ca:Int):=by omega
  clear T JV ho hA Ae Ac;go_enter func93,ntmps93;go_wp2_with fail;refine kg.mono ?_;rintro r w1⟨rfl,rfl⟩;go_wp2_with fail;refine bodyPost_ret (v:=.tuple #[.agg #[.int .u32 eh,.int .i64 er],.bool true]) (by simp[results,results93,go_sem,Ve.out,Vz.out]) rfl ⟨rfl,HE.out _⟩
end Go.Proofs.YtfidemmgofcnmaaGreatDoor
