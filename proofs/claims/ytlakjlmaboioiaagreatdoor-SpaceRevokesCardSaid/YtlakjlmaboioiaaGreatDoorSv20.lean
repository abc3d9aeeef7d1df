/- SpaceRevokes returns true at every input. No condition. Part of its proof. -/
import Derived.Test.YtlakjlmaboioiaaGreatDoorSv18
set_option maxHeartbeats 4000000
set_option maxRecDepth 100000
set_option linter.unusedVariables false
namespace Go.Proofs.YtlakjlmaboioiaaGreatDoor
open Go.RowKit Go.Proofs.Tryz
theorem J0n {N:List (En Nd)} (hs:N.Pairwise (fun a b=>(a.q.sp,a.q.sl)≠(b.q.sp,b.q.sl))) (Ae:N.Pairwise (fun a b=>a.id≠b.id)) {id:Int} {e:En Nd} (hf:find N id=some e):delS (okv N) (e.q.sp,e.q.sl)=okv (rem N id):=by
 obtain⟨A,B,hN,_,hr⟩:=Q3b Ae hf;rw [hr];rw [hN,J2z,J2m] at hs;obtain⟨_,⟨hB,_⟩,hA⟩:=hs
 conv=>lhs;rw [hN]
 unfold delS okv;rw [J5p,J1O,J3J,J5X,J5p];have a1:List.filter (fun q=>decide (q.1≠(e.q.sp,e.q.sl))) (A.map fun e=>((e.q.sp,e.q.sl),Value.int .i64 e.id))=A.map fun e=>((e.q.sp,e.q.sl),Value.int .i64 e.id):=by
  rw [J5T];intro x hx;obtain⟨c,hc,rfl⟩:=J1R.1 hx;show decide ((c.q.sp,c.q.sl)≠(e.q.sp,e.q.sl))=true;exact decide_eq_true (hA c hc e (by simp))
 have a2:List.filter (fun q=>decide (q.1≠(e.q.sp,e.q.sl))) (B.map fun e=>((e.q.sp,e.q.sl),Value.int .i64 e.id))=B.map fun e=>((e.q.sp,e.q.sl),Value.int .i64 e.id):=by
  rw [J5T];intro x hx;obtain⟨c,hc,rfl⟩:=J1R.1 hx;show decide ((c.q.sp,c.q.sl)≠(e.q.sp,e.q.sl))=true;exact decide_eq_true (hB c hc).symm
 rw [a1,a2,if_neg (by simp)]
def FO.cut (q:FO) (id:Int):FO:={q with N:=rem q.N id}
theorem FO.cut_perm {q:FO} (Ae:q.N.Pairwise (fun a b=>a.id≠b.id)) {id:Int} {e:En Nd} (hf:find q.N id=some e) :
  (q.head::(q.m,isMI (kvs (rem q.N id)))::(q.o,isMS (okv (rem q.N id)))::q.N.flatMap (ndH q.kr)).Perm ((q.cut id).hl++ndH q.kr e):=by
 obtain⟨A,B,hN,_,hr⟩:=Q3b Ae hf;have e1:(q.cut id).hl=q.head::(q.m,isMI (kvs (rem q.N id)))::(q.o,isMS (okv (rem q.N id)))::(A.flatMap (ndH q.kr)++B.flatMap (ndH q.kr)):=by
  show q.head::(q.m,isMI (kvs (rem q.N id)))::(q.o,isMS (okv (rem q.N id)))::(rem q.N id).flatMap (ndH q.kr)=_;rw [hr,J2t]
 have e2:q.N.flatMap (ndH q.kr)=A.flatMap (ndH q.kr)++(ndH q.kr e++B.flatMap (ndH q.kr)):=by
  conv=>lhs;rw [hN]
  rw [J2t,J2i]
 rw [e1,e2];simp only [J3X];refine List.Perm.cons _ (List.Perm.cons _ (List.Perm.cons _ ?_));rw [J2M];exact J4B _ J4z
theorem FO.spots_ok {q:FO} (hn:∀e∈q.N,0<=e.q.sp/\e.q.sp<4294967296/\0<=e.q.sl/\e.q.sl<256):∀p∈okv q.N,Q1J prog 46 p.1:=fun p hp=>by
 obtain⟨c,hc,rfl⟩:=J1R.1 hp;obtain⟨h1,h2,h3,h4⟩:=hn c hc;exact Q3o (p:=(c.q.sp,c.q.sl)) h1 (by show c.q.sp<_;omega) h3 (by show c.q.sl<_;omega)
theorem FO.okv_nd {N:List (En Nd)} (hs:N.Pairwise (fun a b=>(a.q.sp,a.q.sl)≠(b.q.sp,b.q.sl))):(okv N).Pairwise (fun a b=>a.1≠b.1):=by
 unfold okv;exact J2q.2 hs
theorem FO.delSteps {w:World} {q:FO} (h:Sep w q.hl) (Ae:q.N.Pairwise (fun a b=>a.id≠b.id)) (hs:q.N.Pairwise (fun a b=>(a.q.sp,a.q.sl)≠(b.q.sp,b.q.sl))) (hn:∀e∈q.N,0<=e.q.sp/\e.q.sp<4294967296/\0<=e.q.sl/\e.q.sl<256)
  {id:Int} {e:En Nd} (hf:find q.N id=some e) (t1 t2 t3 t4:TypeId) :
  ∃w3,(Builtin.delete_ #[279,t1] t2 #[.map (some q.m),.int .i64 id]).run prog w=.ok (.tuple #[]) w3/\Step q.hl (q.head::(q.m,isMI (kvs (rem q.N id)))::(q.o,isMS (okv q.N))::q.N.flatMap (ndH q.kr)) w w3 /\
   ∀w3',Below w3.heap.size w3 w3'->∃w4,(Builtin.delete_ #[280,t3] t4 #[.map (some q.o),.agg #[.int .i64 e.q.sp,.int .i64 e.q.sl]]).run prog w3'=.ok (.tuple #[]) w4/\Step q.hl ((q.cut id).hl++ndH q.kr e) w w4:=by
 obtain⟨Bs,EM⟩:=Q0b hf;obtain⟨w3,r3,m3,g3⟩:=Q3Q (FO.map h) id t1 t2 underlying279 underlying3;rw [Q7F] at m3;obtain⟨es,Ai,ho,hr⟩:=m3;have s3:=Sep.turn (A:=[q.head]) (B:=(q.o,isMS (okv q.N))::q.N.flatMap (ndH q.kr)) (q':=isMI (kvs (rem q.N id))) h g3 ⟨_,ho,es,Ai,rfl,hr⟩;refine⟨w3,r3,s3,fun w3' hb=>?_⟩;have s3':=s3.trans (s3.sep.grown hb);have m3':Q3l w3' q.o (okv q.N):=s3'.sep.map (by simp [isMS]);have Gm:=hn e Bs;obtain⟨w4,r4,m4,g4⟩:=Q6k m3' Z0A (FO.okv_nd hs) (FO.spots_ok hn) (Q3o (p:=(e.q.sp,e.q.sl)) Gm.1 (by show e.q.sp<_;omega) Gm.2.2.1 (by show e.q.sl<_;omega)) t3 t4 underlying280
 rw [J0n hs Ae hf] at m4;obtain⟨es4,EF,Ou,KP⟩:=m4;have s4:=Sep.turn (A:=[q.head,(q.m,isMI (kvs (rem q.N id)))]) (B:=q.N.flatMap (ndH q.kr)) (q':=isMS (okv (rem q.N id))) s3'.sep g4 ⟨_,Ou,es4,EF,rfl,KP⟩;exact⟨w4,r4,(s3'.trans s4).perm (J5f _) (FO.cut_perm Ae hf)⟩
theorem Z1R (f:En Nd->Nd):∀(N:List (En Nd)) (id:Int),rem (mapE f N) id=mapE f (rem N id)
 | [],_=>rfl
 | c::r,id=>by
  show rem ({c with q:=f c}::mapE f r) id=mapE f (rem (c::r) id);unfold rem;show (if id=c.id then mapE f r else {c with q:=f c}::rem (mapE f r) id)=_;rw [Z1R f r id];split <;> rfl
theorem Q9h {N:List (En Nd)} (Ae:N.Pairwise (fun a b=>a.id≠b.id)) {c p:En Nd} {id:Int} (hc:c∈N) (hi:c.id=id) (hp:find N id=some p):c=p:=by
 have:=Q0g Ae hc;rw [hi,hp] at this;exact (J2J this).symm
def cutK (p:Nd) (id:Int):Nd:={p with ks:=p.ks.filter fun k=>decide (k≠id)}
theorem Z8B {N:List (En Nd)} (Ae:N.Pairwise (fun a b=>a.id≠b.id)) {e p:En Nd} (hp:find N e.q.par=some p) :
  rem (mapE (fun c=>if c.id=e.q.par then cutK p.q e.id else c.q) N) e.id=Q0v N e 0:=by
 rw [Z1R];unfold Q0v;refine Q5g fun c hc=>?_
 have TU:=Q7G hc;unfold Q0s;rw [J5l];by_cases h:c.id=e.q.par
 ·have:=Q9h Ae TU h hp;subst this;simp [h,cutK]
 ·simp [h]
theorem Z6j {N:List (En Nd)} {e:En Nd} (h:∀c∈N,c.id≠e.q.par):rem N e.id=Q0v N e 0:=by
 unfold Q0v;rw [Z0u];intro c hc;have:=h c (Q7G hc);unfold Q0s;simp [this]
theorem Q6t {N:List (En Nd)} (Ae:N.Pairwise (fun a b=>a.id≠b.id)) (e:En Nd) (j:Nat):(Q0v N e j).Pairwise (fun a b=>a.id≠b.id):=Q2e (fun _ _ h=>h) (Ae.sublist (Q1A N e.id))
theorem Q6u {N:List (En Nd)} (Ae:N.Pairwise (fun a b=>a.id≠b.id)) (e:En Nd) (j:Nat) (id:Int):find (Q0v N e j) id=if id=e.id then none else (find N id).map fun c=>{c with q:=Q0s e j c}:=by
 unfold Q0v;rw [Q1t,Q2m Ae];split <;> rfl
theorem Z6k {N:List (En Nd)} (Ae:N.Pairwise (fun a b=>a.id≠b.id)) {e:En Nd} {j:Nat} {k:Int} (hk:e.q.ks[j]?=some k) (AG:e.q.ks.Nodup) {c p:En Nd} (hc:find (Q0v N e j) k=some c) (Hg:k≠e.q.par)
  (hp:find (mapE (fun d=>if d.id=k then {c.q with par:=e.q.par} else d.q) (Q0v N e j)) e.q.par=some p) :
  mapE (fun d=>if d.id=e.q.par then {p.q with ks:=p.q.ks++[k]} else d.q) (mapE (fun d=>if d.id=k then {c.q with par:=e.q.par} else d.q) (Q0v N e j))=Q0v N e (j+1):=by
 have Cc:=Q6t Ae e j;obtain⟨Dm,Im⟩:=Q0b hc;rw [Q6l];unfold Q0v at Cc hc hp Dm ⊢;rw [Q6l];refine Q5g fun d hd=>?_
 have AR:e.q.ks.take (j+1)=e.q.ks.take j++[k]:=by
  rw [J3I,hk];rfl
 have EZ:({d with q:=Q0s e j d}:En Nd)∈mapE (Q0s e j) (rem N e.id):=J1R.2 ⟨d,hd,rfl⟩;by_cases h1:d.id=e.q.par
 ·have h2:d.id≠k:=fun h=>Hg (by rw [<- h,h1])
  have Fk:p={d with q:=Q0s e j d}:=by
   have hx:find (mapE (fun d=>if d.id=k then {c.q with par:=e.q.par} else d.q) (mapE (Q0s e j) (rem N e.id))) d.id=some ({d with q:=Q0s e j d}:En Nd):=by
    rw [Q1t];have:=Q0g Cc EZ;simp only at this;rw [this];simp only [J3A,if_neg h2]
   exact (J2J (hx.symm.trans ((congrArg (find _) h1).trans hp))).symm
  simp only [h1,if_true];rw [Fk];have h3:¬e.q.par=k:=fun h=>Hg h.symm
  unfold Q0s;simp only [h1,if_true,AR,J2A,J3T,h3,or_false,J2M]
 ·simp only [h1,if_false];by_cases h2:d.id=k
  ·simp only [h2,if_true];have Eb:c={d with q:=Q0s e j d}:=Q9h Cc EZ h2 hc |>.symm;rw [Eb];have h3:¬k=e.q.par:=Hg;unfold Q0s;simp only [h2,h3,if_false,AR,J2A,J3T,or_true,if_true]
  ·simp only [h2,if_false];unfold Q0s;simp only [h1,if_false,AR,J2A,J3T,h2,or_false]
theorem Z3e {N:List (En Nd)} (Ae:N.Pairwise (fun a b=>a.id≠b.id)) {e:En Nd} {j:Nat} {k:Int} (hk:e.q.ks[j]?=some k) {c:En Nd} (hc:find (Q0v N e j) k=some c) (Aq:∀d∈N,d.id≠e.q.par) :
  mapE (fun d=>if d.id=k then {c.q with par:=e.q.par} else d.q) (Q0v N e j)=Q0v N e (j+1):=by
 have Cc:=Q6t Ae e j;unfold Q0v at Cc hc ⊢;rw [Q6l];refine Q5g fun d hd=>?_
 have AR:e.q.ks.take (j+1)=e.q.ks.take j++[k]:=by
  rw [J3I,hk];rfl
 have EZ:({d with q:=Q0s e j d}:En Nd)∈mapE (Q0s e j) (rem N e.id):=J1R.2 ⟨d,hd,rfl⟩;have h1:=Aq d (Q7G hd);by_cases h2:d.id=k
 ·simp only [h2,if_true];have Eb:c={d with q:=Q0s e j d}:=Q9h Cc EZ h2 hc |>.symm;rw [Eb];have h3:¬k=e.q.par:=h2 ▸ h1;unfold Q0s;simp only [h3,if_false,AR,J2A,J3T,h2,or_true,if_true]
 ·simp only [h2,if_false];unfold Q0s;simp only [h1,if_false,AR,J2A,J3T,h2,or_false]
structure Z3f (q:FO) (e:En Nd) (j:Nat) (F:FO):Prop where
 f:F.f=q.f
 m:F.m=q.m
 o:F.o=q.o
 N:F.N=Q0v q.N e j
 next:F.next=q.next
 rv:∀c∈F.N,rvOk (F.kr c.id) c.q.ks.length
theorem Z8C {N:List (En Nd)} {next:Int} (ok:NOk N next) {a b:En Nd} (ha:a∈N) (hb:b∈N) (Aa:a.id≠b.id):a.q.ks.length+b.q.ks.length<=N.length:=by
 have AG:(a.q.ks++b.q.ks).Nodup:=by
  rw [J2F];refine⟨ok.nd a ha,ok.nd b hb,fun x hx y hy G7=>?_⟩;subst G7;obtain⟨c,hc,h1⟩:=ok.kids a ha x hx;obtain⟨d,hd,h2⟩:=ok.kids b hb x hy;rw [hc] at hd;cases hd;exact Aa (h1.symm.trans h2)
 have:=J6a AG (l₂:=N.map En.id) (fun k hk=>by
  rcases J2A.1 hk with hk|hk
  ·obtain⟨c,hc,_⟩:=ok.kids a ha k hk;obtain⟨c1,c2⟩:=Q0b hc;exact J1R.2 ⟨c,c1,c2⟩
  ·obtain⟨c,hc,_⟩:=ok.kids b hb k hk;obtain⟨c1,c2⟩:=Q0b hc;exact J1R.2 ⟨c,c1,c2⟩)
 rwa [J2v,J3v] at this
theorem Z6l {F:FO} {id:Int} {c:En Nd} (Ae:F.N.Pairwise (fun a b=>a.id≠b.id)) (hf:find F.N id=some c) (h:∀c∈F.N,rvOk (F.kr c.id) c.q.ks.length) {n:Nd} {rv:RV} (hn:rvOk rv n.ks.length):∀d∈(F.setN id n rv).N,rvOk ((F.setN id n rv).kr d.id) d.q.ks.length:=fun d hd=>by
 obtain⟨d0,OP,rfl⟩:=Q1m (show d∈mapE _ F.N from hd);show rvOk (if d0.id=id then rv else F.kr d0.id) (if d0.id=id then n else d0.q).ks.length;split
 ·exact hn
 ·exact h d0 OP
theorem Q7n {wr:World} {q F:FO} {e:En Nd} {j:Nat} {k:Int} (ok:q.Ok) (he:find q.N e.id=some e) (L:Z3f q e j F) (hs:Sep wr (F.hl++ndH q.kr e)) (hj:e.q.ks[j]?=some k) :
  ∃c,find F.N k=some c/\(wr.cell? ⟨F.f,0,none⟩=some (.map (some F.m))/\wr.cell? ⟨e.b,2,none⟩=some (.int .i64 e.q.par)/\wr.frozen? ⟨c.b,2,none⟩=false/\∃v,wr.cell? ⟨c.b,2,none⟩=some v) /\
   (Instr.lookup 279 (.map (some F.m)) (.int .i64 k) false).run prog wr=.ok (.pointer (some ⟨c.b,0,none⟩)) wr /\
   ((wr.setCell ⟨c.b,2,none⟩ (.int .i64 e.q.par)).cell? ⟨e.b,2,none⟩=some (.int .i64 e.q.par)) /\
   ∀W1,Below (wr.setCell ⟨c.b,2,none⟩ (.int .i64 e.q.par)).heap.size (wr.setCell ⟨c.b,2,none⟩ (.int .i64 e.q.par)) W1 ->
    (find q.N e.q.par=none->Calls prog 162 #[.pointer (some ⟨F.f,0,none⟩),.int .i64 e.q.par] W1 (fun r w'=>r=.returned (.pointer none)/\W1=w') /\
     ∃F',Z3f q e (j+1) F'/\Step (F.hl++ndH q.kr e) (F'.hl++ndH q.kr e) wr W1) /\
    (find q.N e.q.par≠none->∃(pb:Nat) (V:Value),Calls prog 162 #[.pointer (some ⟨F.f,0,none⟩),.int .i64 e.q.par] W1 (fun r w'=>r=.returned (.pointer (some ⟨pb,0,none⟩))/\W1=w')/\W1.cell? ⟨pb,3,none⟩=some V/\(∃a n c,V=.slice a n c) /\
     ∃(V':Value) (w':World),(Builtin.append_ #[36,36] 36 #[V,.slice (some ⟨W1.heap.size,0,none⟩) 1 1]).run prog (W1.alloc (.cells #[.int .i64 k] 3))=.ok V' w'/\(∃a n c,V'=.slice a n c)/\w'.cell? ⟨pb,3,none⟩=some V/\(∀i,w'.frozen? ⟨pb,i,none⟩=false) /\
      ∃F',Z3f q e (j+1) F'/\Step (F.hl++ndH q.kr e) (F'.hl++ndH q.kr e) wr (w'.setCell ⟨pb,3,none⟩ V')):=by
 obtain⟨Bs,_⟩:=Q0b he;have SY:k∈e.q.ks:=J4a hj;obtain⟨d,hd,DP⟩:=ok.n.kids e Bs k SY;obtain⟨EZ,I0⟩:=Q0b hd;have IX:=ok.n.rise d EZ;have Ky:=ok.n.rise e Bs;have UM:k≠e.id:=by omega
 have Hg:k≠e.q.par:=by omega
 have Ge:F.N.Pairwise (fun a b=>a.id≠b.id):=by rw [L.N];exact Q6t ok.n.ids e j
 have FU:find F.N k=some {d with q:=Q0s e j d}:=by rw [L.N,Q6u ok.n.ids,if_neg UM,hd];rfl
 generalize hc:({d with q:=Q0s e j d}:En Nd)=c at FU;obtain⟨Dm,Im⟩:=Q0b FU;have Nx:=hs.left;have FK:=hs.right;have AX:Cells wr e.b 287 (e.q.cells (q.kr e.id)):=FK.cells (by simp [ndH]);obtain⟨R,p1,p2⟩:=FO.split Ge FU;have A8:=(Nx.perm p1).cells (b:=c.b) (T:=287) (cs:=c.q.cells (F.kr k)) (by simp);have AQ:=Sep.set (A:=[]) (B:=rowH (F.kr k) 3 1 (c.q.ks.map encI)++R) (Nx.perm p1) 2 (.int .i64 e.q.par);have AK:(c.q.cells (F.kr k)).set 2 (.int .i64 e.q.par)=Nd.cells {c.q with par:=e.q.par} (F.kr k):=rfl;rw [AK] at AQ;have stF:Step F.hl (F.setN k {c.q with par:=e.q.par} (F.kr k)).hl wr (wr.setCell ⟨c.b,2,none⟩ (.int .i64 e.q.par)):=AQ.perm p1.symm (p2 {c.q with par:=e.q.par} (F.kr k) rfl rfl).symm
 have st1:Step (F.hl++ndH q.kr e) ((F.setN k {c.q with par:=e.q.par} (F.kr k)).hl++ndH q.kr e) wr (wr.setCell ⟨c.b,2,none⟩ (.int .i64 e.q.par)):=by
  have:=Step.frame [] (ndH q.kr e) (by simpa using hs) stF
  simpa using this
 have Hd:Cells (wr.setCell ⟨c.b,2,none⟩ (.int .i64 e.q.par)) e.b 287 (e.q.cells (q.kr e.id)):=st1.sep.right.cells (by simp [ndH]);refine⟨c,FU,⟨FO.c0 Nx,AX.cell 2 _ rfl,A8.free 2,_,A8.cell 2 _ rfl⟩,FO.look_some Nx FU,Hd.cell 2 _ rfl,fun W1 hW=>?_⟩;have st1':=st1.trans (st1.sep.grown hW);have I3:Sep W1 (F.setN k {c.q with par:=e.q.par} (F.kr k)).hl:=st1'.sep.left;have C2:(F.setN k {c.q with par:=e.q.par} (F.kr k)).N.Pairwise (fun a b=>a.id≠b.id):=Q2e (fun _ _ h=>h) Ge;have M4:=L.rv c Dm;rw [Im] at M4;have Jz:=Z6l Ge FU L.rv (n:={c.q with par:=e.q.par}) (rv:=F.kr k) M4
 have SJ:∀i,(F.setN k {c.q with par:=e.q.par} (F.kr k)).kr i=F.kr i:=fun i=>by
  show (if i=k then F.kr k else F.kr i)=F.kr i;split
  ·rename_i h;rw [h]
  ·rfl
 have find1:∀id,find (F.setN k {c.q with par:=e.q.par} (F.kr k)).N id=(find F.N id).map fun d=>{d with q:=if d.id=k then {c.q with par:=e.q.par} else d.q}:=fun id=>Q1t _ _ _
 refine⟨fun Aq=>?_,fun Ij=>?_⟩
 ·have QA:find (F.setN k {c.q with par:=e.q.par} (F.kr k)).N e.q.par=none:=by
   rw [find1,L.N,Q6u ok.n.ids,Aq];split <;> rfl
  refine⟨Q4L I3 QA,F.setN k {c.q with par:=e.q.par} (F.kr k),⟨L.f,L.m,L.o,?_,L.next,Jz⟩,st1'⟩;show mapE _ F.N=_;rw [L.N];exact Z3e ok.n.ids hj (by rw [<- L.N];exact FU) fun d hd h=>by
   have:=Q0g ok.n.ids hd;rw [h,Aq] at this;cases this
 ·obtain⟨p0,EC⟩:=Option.ne_none_iff_exists'.1 Ij;obtain⟨Po,Mj⟩:=Q0b EC;have Fk:e.q.par≠e.id:=by omega
  have Gk:find (F.setN k {c.q with par:=e.q.par} (F.kr k)).N e.q.par=some {p0 with q:=Q0s e j p0}:=by
   rw [find1,L.N,Q6u ok.n.ids,if_neg Fk,EC];simp only [J3A,J1Z];rw [Mj,if_neg (fun h=>Hg h.symm)]
  generalize hp:({p0 with q:=Q0s e j p0}:En Nd)=p at Gk;obtain⟨BG,Fw⟩:=Q0b Gk;have Mw:=Jz p BG;rw [Fw] at Mw;have Cx:=Z8C ok.n Po Bs (by omega);have Cy:=ok.few;have Ac:p.q.ks.length<=65536:=by
   rw [<- hp];show (Q0s e j p0).ks.length<=_;unfold Q0s;simp only;split
   ·rw [J2v,J4f];have:=J4b (fun k=>decide (k≠e.id)) p0.q.ks;omega
   ·omega
  obtain⟨rv',w',r5,Cw,k3,kf,st5⟩:=FO.pushK I3 C2 Gk Mw Ac k 36;have c3:=(FO.nd I3 Gk).cell 3 (lvOf ((F.setN k {c.q with par:=e.q.par} (F.kr k)).kr p.id) p.q.ks.length) rfl;rw [Fw] at c3;have lvs:∀(rv:RV) (n:Nat),∃a n' c,lvOf rv n=.slice a n' c:=fun rv n=>by
   cases rv with
   | none=>exact⟨_,_,_,rfl⟩
   | some p=>exact⟨_,_,_,rfl⟩
  refine⟨p.b,_,Q2S I3 Gk,c3,lvs _ _,_,w',r5,?_,k3,kf,(F.setN k {c.q with par:=e.q.par} (F.kr k)).setN e.q.par {p.q with ks:=p.q.ks++[k]} rv',⟨L.f,L.m,L.o,?_,L.next,?_⟩,?_⟩
  ·cases rv' with
   | none=>exact⟨_,_,_,rfl⟩
   | some p=>exact⟨_,_,_,rfl⟩
  ·show mapE _ (mapE _ F.N)=_;have hx:=Z6k ok.n.ids (e:=e) (j:=j) (k:=k) hj (ok.n.nd e Bs) (c:=c) (p:=p) (by rw [<- L.N];exact FU) Hg (by rw [<- L.N];exact Gk);rw [L.N];exact hx
  ·exact Z6l C2 Gk Jz (n:={p.q with ks:=p.q.ks++[k]}) (by rw [J2v,J5N];exact Cw)
  ·have:=Step.frame [] (ndH q.kr e) (by simpa using st1'.sep) st5;exact st1'.trans (by simpa using this)
theorem Q4O (x id:Int) (b:Nat) (w:World) (h:w.cell? ⟨b,0,none⟩=some (.int .i64 id)) :
  Calls prog 268 #[.int .i64 x,.pointer (some ⟨b,0,none⟩)] w fun e w'=>e=.returned (.bool (x==id))/\w=w':=by
 go_enter func268,ntmps268
 go_wp2
 go_ret;exact⟨rfl,rfl⟩
def J1e (xs:List Int) (id:Int) (e:Ending):Prop:=
 (∃k:Nat,k<xs.length/\e=.returned (.int .i64 k)/\xs[k]?.getD 0=id/\∀j,j<k->xs[j]?.getD 0≠id)∨(e=.returned (.int .i64 (-1))/\∀j,j<xs.length->xs[j]?.getD 0≠id)
def Z6m (b:Nat):Value:=.func (.func 268) #[] #[.pointer (some ⟨b,0,none⟩)]
theorem Z0B (xs:List Int) (id:Int) (b g cap:Nat) (w:World) (h:w.cell? ⟨b,0,none⟩=some (.int .i64 id)) (hm:xs.length<=4611686018427387904)
  (hc:∀k,k<xs.length->w.cell? ⟨g,k,none⟩=some (.int .i64 (xs[k]?.getD 0))) :
  Calls prog 295 #[.slice (some ⟨g,0,none⟩) xs.length cap,Z6m b] w fun e w'=>J1e xs id e/\w=w':=by
 unfold Z6m;go_enter func295,ntmps295;go_wp2_with fail
 go_loop [5,8] (fun _ i=>∃k:Nat,k<=xs.length/\i=.int .i64 k/\∀j,j<k->xs[j]?.getD 0≠id) (fun _ i=>xs.length-(intOf i).toNat)
 case atStart=>exact⟨0,J3O _,rfl,by intro j hj;omega⟩
 case round =>
  obtain⟨k,hk,rfl,A4⟩:=hrel;have Hp:Hid (∀j,j<k->xs[j]?.getD 0≠id):=A4;clear A4;by_cases Ab:k<xs.length
  ·have DO:=hc k Ab;have hh:=h;clear hc h;generalize hx:xs[k]?.getD 0=x at DO;have Hx:Hid (xs[k]?.getD 0=x):=hx;clear hx;by_cases hx:x=id
   ·have hb:(x==id)=true:=by simpa using hx
    have Pb:Hid (x=id):=hx;clear hx;go_wp2_with (go_at_call 268;refine (Q4O _ id b _ hh).mono ?_;rintro e w' ⟨rfl,rfl⟩);go_ret;exact⟨.inl ⟨k,Ab,rfl,Hx.out.trans Pb.out,Hp.out⟩,rfl⟩
   ·have hb:(x==id)=false:=by simpa using hx
    have Pb:Hid (x≠id):=hx;clear hx;go_wp2_with (go_at_call 268;refine (Q4O _ id b _ hh).mono ?_;rintro e w' ⟨rfl,rfl⟩)
    go_round
    case rel =>
     refine⟨k+1,by omega,by go_num,fun j hj=>?_⟩;by_cases e:j=k
     ·subst e;rw [Hx.out];exact Pb.out
     ·exact Hp.out j (by omega)
    case measure=>simp [intOf];omega
  ·clear hc;go_wp2_with fail;go_ret;exact⟨.inr ⟨rfl,fun j hj=>Hp.out j (by omega)⟩,rfl⟩
def fltK (xs:List Int) (id:Int):List Int:=xs.filter fun x=>x != id
theorem Q9i {xs:List Int} {id:Int} (h:∀j,j<xs.length->xs[j]?.getD 0≠id):fltK xs id=xs:=by
 unfold fltK;rw [J5T];intro x hx;obtain⟨j,hj,rfl⟩:=List.getElem_of_mem hx;have:=h j hj
 simpa [hj] using this
theorem Q3W (xs:List Int) (id:Int) (j:Nat) (hj:j<xs.length) :
  fltK (xs.take (j+1)) id=if xs[j]?.getD 0=id then fltK (xs.take j) id else fltK (xs.take j) id++[xs[j]?.getD 0]:=by
 rw [J6c hj];unfold fltK;rw [J3J];by_cases h:xs[j]=id <;> simp [h,hj]
def Z8D (w:World) (g cap:Nat) (ys:List Int) (e:Ending) (w':World):Prop:=
 e=.returned (.slice (some ⟨g,0,none⟩) ys.length cap)/\(∃cs,Cells w' g 3 cs/\cs.length=cap/\cs.take ys.length=ys.map (Value.int .i64))/\w.grownBy w' (some g)
def Z6n (xs:List Int) (id:Int) (g cap:Nat) (w:World) (k0:Nat) (iv jv:Value) (wr:World):Prop:=
 ∃j cs,jv=.int .i64 (j:Nat)/\iv=.int .i64 ((fltK (xs.take j) id).length:Nat)/\k0<j/\j<=xs.length/\(fltK (xs.take j) id).length<j/\Cells wr g 3 cs/\cs.length=cap /\
  cs.take (fltK (xs.take j) id).length=(fltK (xs.take j) id).map (Value.int .i64)/\(∀m,j<=m->m<xs.length->cs[m]?=some (.int .i64 (xs[m]?.getD 0)))/\w.grownBy wr (some g)
theorem J1f (w:World):(zeroValue 3).run prog w=.ok (.int .i64 0) w:=by kernel_rfl
theorem Q9j (xs:List Int) (id:Int) (b g cap:Nat) (w:World) (cs0:List Value) (h:w.cell? ⟨b,0,none⟩=some (.int .i64 id)) (Aa:b≠g) (hc:Cells w g 3 cs0) (AH:xs.length<=cap) (AK:cs0.length=cap)
  (CN:cs0.take xs.length=xs.map (Value.int .i64)) (hm:xs.length<=1048576) :
  Calls prog 267 #[.slice (some ⟨g,0,none⟩) xs.length cap,Z6m b] w (Z8D w g cap (fltK xs id)):=by
 have Al:∀k,k<xs.length->cs0[k]?=some (.int .i64 (xs[k]?.getD 0)):=by
  intro k hk;have h1:(cs0.take xs.length)[k]?=(xs.map (Value.int .i64))[k]?:=by rw [CN]
  rw [J3P,if_pos hk] at h1;rw [h1];simp [hk]
 have Mu:=Z0B xs id b g cap w h (by omega) (fun k hk=>hc.cell k _ (Al k hk));unfold Z6m at Mu ⊢;go_enter func267,ntmps267;go_wp2_with fail;refine Mu.mono ?_;rintro e w' ⟨⟨k,hk,rfl,Hn,A4⟩|⟨rfl,AP⟩,rfl⟩
 case inr =>
  have JZ:=Q9i AP
  go_wp2
  go_ret;rw [JZ];exact⟨rfl,⟨cs0,hc,AK,CN⟩,⟨rfl,rfl,rfl,J1L _,fun _ _ _=>rfl⟩⟩
 case inl =>
  have Q8:fltK (xs.take k) id=xs.take k:=Q9i (by
   intro j hj;have KL:j<k:=by simp at hj;omega
   have:=A4 j KL
   simpa [J3P,KL] using this)
  have Id:fltK (xs.take (k+1)) id=xs.take k:=by rw [Q3W xs id k hk,if_pos Hn,Q8]
  have Ee:Hid (Z6n xs id g cap w k (.int .i64 k) (.int .i64 ((k:Int)+1)) w):=by
   refine⟨k+1,cs0,by go_num,?_,by omega,by omega,?_,hc,AK,?_,fun m _ hm=>Al m hm,⟨rfl,rfl,rfl,J1L _,fun _ _ _=>rfl⟩⟩
   ·rw [Id];simp;omega
   ·rw [Id];simp;omega
   ·rw [Id];have h1:=congrArg (List.take k) CN;rw [J4h,<- List.map_take] at h1;have e1:(List.take k xs).length=k:=by simp;omega
    rw [e1,<- h1];congr 1;omega
  have Kj:((k:Int) == -1)=false:=by simp
  clear Al Mu Q8 Id Hn A4 hc CN AK;go_wp2_with fail
  go_loopw [5,6] (fun iv jv wr=>Z6n xs id g cap w k iv jv wr) (fun _ jv _=>xs.length-(intOf jv).toNat)
  case atStart=>exact Ee.out
  case round =>
   clear Ee;obtain⟨j,cs,rfl,rfl,Nm,hj,FT,hc,AK,A4,IS,hg⟩:=hrel;generalize hi:(fltK (List.take j xs) id).length=i at FT A4;have Hi:Hid ((fltK (List.take j xs) id).length=i):=hi;clear hi;have BK:wr.cell? ⟨b,0,none⟩=some (.int .i64 id):=hg.cell h (by simpa using Aa);have JH:Hid (List.take i cs=List.map (Value.int IntKind.i64) (fltK (List.take j xs) id)):=A4;have Gd:Hid (∀(m:Nat),j<=m->m<xs.length->cs[m]?=some (Value.int IntKind.i64 (xs[m]?.getD 0))):=IS;have KF:Hid (cs.length=cap):=AK;clear A4 IS h AK;by_cases Ab:j<xs.length
   ·have Tc:=hc.cell j _ (Gd.out j (J1L _) Ab);have Jc:=hc.cell i (cs[i]?.getD undef) (by have:=KF.out;rw [J4d (by omega)];rfl);generalize hu:cs[i]?.getD undef=u at Jc;clear hu;have UV:=hc.free i;generalize hx:xs[j]?.getD 0=x at Tc;have Hx:Hid (xs[j]?.getD 0=x):=hx;clear hx;have Bu:Hid (Cells wr g 3 cs):=hc;clear hc;have JJ:=Q3W xs id j Ab;by_cases hx:x=id
    ·have Hf:Hid (fltK (List.take (j+1) xs) id=fltK (List.take j xs) id):=by rw [JJ,if_pos (Hx.out.trans hx)];exact rfl
     have BX:(x==id)=true:=by simpa using hx
     clear hx JJ;go_wp2_with (go_at_call 268;refine (Q4O _ id b _ BK).mono ?_;rintro e w' ⟨rfl,rfl⟩);go_roundw
     case rel =>
      refine⟨j+1,cs,by go_num,?_,by omega,by omega,?_,Bu.out,KF.out,?_,fun m DE C6=>Gd.out m (by omega) C6,hg⟩
      ·rw [Hf.out,Hi.out]
      ·rw [Hf.out,Hi.out];omega
      ·rw [Hf.out,Hi.out];exact JH.out
     case measure=>simp [intOf];omega
    ·have Hf:Hid (fltK (List.take (j+1) xs) id=fltK (List.take j xs) id++[x]):=by rw [JJ,if_neg (by rw [Hx.out];exact hx),Hx.out];exact rfl
     have BX:(x==id)=false:=by simpa using hx
     clear hx JJ;go_wp2_with (go_at_call 268;refine (Q4O _ id b _ BK).mono ?_;rintro e w' ⟨rfl,rfl⟩);go_roundw
     case rel =>
      refine⟨j+1,cs.set i (.int .i64 x),by go_num,?_,by omega,by omega,?_,Bu.out.set _ _,by simpa using KF.out,?_,fun m DE C6=>?_,?_⟩
      ·rw [Hf.out];simp [Hi.out]
      ·rw [Hf.out];simp [Hi.out];omega
      ·rw [Hf.out];have e1:(fltK (List.take j xs) id++[x]).length=i+1:=by simp [Hi.out]
       have CG:i<cs.length:=by have:=KF.out;omega
       rw [e1,J6c (by simpa using CG),J2N (J1L _),JH.out];simp
      ·rw [J5t (by omega)];exact Gd.out m (by omega) C6
      ·exact⟨hg.os,hg.tape,hg.output,by simpa using hg.size,fun q hq hqn=>(Below.heap_setCell _ _ _ _ (fun e=>hqn (by simp [e]))).trans (hg.block q hq hqn)⟩
     case measure=>simp [intOf];omega
   ·obtain rfl:j=xs.length:=by omega
    have Qu:i<cap:=by omega
    have Jc:((cap:Int)==i)=false:=by simp;omega
    have IF:¬(cap=i):=by omega
    have Bu:Hid (Cells wr g 3 cs):=hc;clear hc;go_wp2_with (refine Q4k _ rfl (.tmp 38) 36 3 rfl underlying36 (.int .i64 0) J1f rfl rfl g i (xs.length-i) (cap-i) rfl (by omega) 3 cs Bu.out (by have:=KF.out;omega) ?_;intro w2 Bo B9);go_ret;have CD:List.take xs.length xs=xs:=J3K (J1L _);have Pi:=Hi.out;have Je:=JH.out;have Uj:=KF.out;rw [CD] at Pi Je;refine⟨by rw [Pi];rfl,⟨_,Bo,?_,?_⟩,?_⟩
    ·simp;omega
    ·rw [Pi,J2M,J4g (by simp;omega),J4h,Nat.min_self,Je]
    ·exact⟨B9.os.trans hg.os,B9.tape.trans hg.tape,B9.output.trans hg.output,J1M hg.size B9.size,fun q hq hqn=>(B9.block q (J1N hq hg.size) hqn).trans (hg.block q hq hqn)⟩
theorem Step.aside {H H':HL} {w w1 w2:World} (st:Step H H' w w1) {F:Nat->Prop} (hc:Chg F w1 w2) (hF:∀b,F b->w.heap.size<=b/\b∉keys H') (Cn:GB<=w.heap.size):Step H H' w w2:=
 ⟨st.sep.chg hc (fun b hb hf=>(hF b hf).2 hb) (fun b hf=>J1M Cn (hF b hf).1),st.chg.trans hc (fun i hi=>.inr (hF i hi).1),st.new⟩
theorem Step.set_aside {H H':HL} {w w1:World} (st:Step H H' w w1) {b:Nat} (hb:w.heap.size<=b) (hk:b∉keys H') (Cn:GB<=w.heap.size) (i:Nat) (v:Value):Step H H' w (w1.setCell ⟨b,i,none⟩ v):=
 st.aside (F:=fun k=>k=b) ((Chg.refl _ _).set _ _ (.inl rfl)) (fun k Bz=>by subst Bz;exact⟨hb,hk⟩) Cn
def FO.dropped (q:FO) (e:En Nd):FO:={q with N:=Q0v q.N e 0}
theorem FO.cutRow {w:World} {q:FO} (h:Sep w q.hl) (ok:q.Ok) {e p:En Nd} (he:find q.N e.id=some e) (hp:find q.N e.q.par=some p) {b:Nat} (hb:w.cell? ⟨b,0,none⟩=some (.int .i64 e.id)) (AC:b∉keys q.hl) (FQ:b<w.heap.size) :
  ∃g cap:Nat,q.kr e.q.par=some (g,cap)/\Calls prog 267 #[.slice (some ⟨g,0,none⟩) p.q.ks.length cap,Z6m b] w fun r w'=>r=.returned (.slice (some ⟨g,0,none⟩) (cutK p.q e.id).ks.length cap) /\
   (w'.cell? ⟨b,0,none⟩=some (.int .i64 e.id))/\w'.frozen? ⟨p.b,3,none⟩=false/\(∃v,w'.cell? ⟨p.b,3,none⟩=some v) /\
   Step q.hl (q.setN e.q.par (cutK p.q e.id) (some (g,cap))).hl w (w'.setCell ⟨p.b,3,none⟩ (.slice (some ⟨g,0,none⟩) (cutK p.q e.id).ks.length cap)):=by
 obtain⟨Bs,_⟩:=Q0b he;obtain⟨BG,Fw⟩:=Q0b hp;have Cj:e.id∈p.q.ks:=by
  obtain⟨p',By,hk⟩:=(ok.n.par e Bs).2 (by have:=ok.n.rng p BG;omega);rw [hp] at By;cases By;exact hk
 have AO:=ok.rv p BG;rw [Fw] at AO;obtain⟨R,p1,p2⟩:=FO.split ok.n.ids hp;cases CP:q.kr e.q.par with
 | none =>
  rw [CP] at AO;have:p.q.ks.length=0:=AO;rw [J3L] at this;rw [this] at Cj;cases Cj
 | some gc =>
  obtain⟨g,cap⟩:=gc;rw [CP] at AO p1;obtain⟨AH,Hq⟩:p.q.ks.length<=cap/\cap<=maxLen:=AO;refine⟨g,cap,rfl,?_⟩;have pm:∀(Z:HL) (a:Nat×(Obj->Prop)),((a::Z)++R).Perm (Z++(a::R)):=fun Z a=>J5q.symm
  have h':Sep w (rowH (some (g,cap)) 3 1 (p.q.ks.map encI)++((p.b,isC 287 (p.q.cells (some (g,cap))))::R)):=h.perm (p1.trans (pm _ _));obtain⟨ds,FH,DZ,Qh⟩:=h'.left.row (b:=g) (T:=3) (n:=cap*1) (cs:=p.q.ks.map encI) (by simp [rowH]);rw [J2S] at DZ;rw [J3v] at Qh;have E6:g∈keys q.hl:=by
   have:g∈keys (rowH (some (g,cap)) 3 1 (p.q.ks.map encI)++((p.b,isC 287 (p.q.cells (some (g,cap))))::R)):=by simp [rowH,keys]
   exact ((p1.trans (pm _ _)).map Prod.fst).mem_iff.2 this
  have Qo:b≠g:=fun x=>AC (x ▸ E6)
  have Cy:=ok.n.kids_few BG;have G5:=ok.few;have Or:fltK p.q.ks e.id=(cutK p.q e.id).ks:=by
   unfold fltK cutK;exact J4C fun x _=>by by_cases hx:x=e.id <;> simp [hx]
  refine (Q9j p.q.ks e.id b g cap w ds hb Qo FH AH DZ (by rw [Qh]) (by omega)).mono ?_;rintro r w' ⟨hr,⟨cs,Bu,AK,Nw⟩,hg⟩;rw [Or] at hr Nw;have s1:=Sep.turn (A:=[]) (B:=(p.b,isC 287 (p.q.cells (some (g,cap))))::R) (q':=isR 3 (cap*1) ((cutK p.q e.id).ks.map encI)) h' hg ⟨_,Bu,cs.toArray,rfl,by simpa using AK,by
   rw [J3v]
   simpa using Nw⟩
  have hc:=s1.sep.cells (b:=p.b) (T:=287) (cs:=p.q.cells (some (g,cap))) (by simp);have s2:=Sep.set (A:=[(g,isR 3 (cap*1) ((cutK p.q e.id).ks.map encI))]) (B:=R) s1.sep 3 (.slice (some ⟨g,0,none⟩) (cutK p.q e.id).ks.length cap);have NC:(p.q.cells (some (g,cap))).set 3 (.slice (some ⟨g,0,none⟩) (cutK p.q e.id).ks.length cap)=(cutK p.q e.id).cells (some (g,cap)):=rfl;rw [NC] at s2;refine⟨hr,hg.cell hb (by simpa using Qo),hc.free 3,⟨_,hc.cell 3 _ rfl⟩,(s1.trans s2).perm ((p1.trans (pm _ _)).symm) ?_⟩;exact ((p2 (cutK p.q e.id) (some (g,cap)) rfl rfl).trans (pm _ _)).symm
def Z8E (q:FO) (e:En Nd) (w w':World):Prop:=Step q.hl ((q.dropped e).hl++ndH q.kr e) w w'
theorem Z8F {q:FO} (ok:q.Ok) {e p:En Nd} (hp:find q.N e.q.par=some p) {rv:RV} (CP:q.kr e.q.par=rv):(q.setN e.q.par (cutK p.q e.id) rv).cut e.id=q.dropped e/\(q.setN e.q.par (cutK p.q e.id) rv).kr=q.kr:=by
 have hk:(fun j=>if j=e.q.par then rv else q.kr j)=q.kr:=by
  funext j;split
  ·rename_i h;rw [h];exact CP.symm
  ·rfl
 refine⟨?_,hk⟩;unfold FO.cut FO.setN FO.dropped;simp only [hk];rw [Z8B ok.n.ids hp]
theorem Z6o {q:FO} {e:En Nd} (he:find q.N e.id=some e) (Aa:e.id≠e.q.par) (n:Nd) (rv:RV):find (q.setN e.q.par n rv).N e.id=some e:=by
 show find (mapE _ q.N) e.id=_;rw [Q1t,he];simp only [J3A,if_neg Aa]
def Q0F (w:World) (id:Int):World:=(w.alloc (.cells #[.int .i64 id] 3)).alloc (.cells #[.int .i64 0,.int .i64 0] 46)
theorem Q2V (w:World) (id:Int):Below w.heap.size w (Q0F w id):=((Below.refl _ _).alloc (J1L _) _).alloc (by simp) _
structure J0o (q q1:FO) (e:En Nd) (w w3:World):Prop where
 c0:w3.cell? ⟨q.f,0,none⟩=some (.map (some q.m))
 c1:w3.cell? ⟨q.f,1,none⟩=some (.map (some q.o))
 b0:w3.cell? ⟨w.heap.size,0,none⟩=some (.int .i64 e.id)
 del:∃w5,(Builtin.delete_ #[279,3] 0 #[.map (some q.m),.int .i64 e.id]).run prog w3.drew=.ok (.tuple #[]) w5/\(w5.cell? ⟨q.f,1,none⟩=some (.map (some q.o))/\w5.cell? ⟨e.b,0,none⟩=some (.int .i64 e.q.sp)/\w5.cell? ⟨e.b,1,none⟩=some (.int .i64 e.q.sl)) /\
  ∃w7,(Builtin.delete_ #[280,46] 0 #[.map (some q.o),.agg #[.int .i64 e.q.sp,.int .i64 e.q.sl]]).run prog w5.drew=.ok (.tuple #[]) w7/\(w7.cell? ⟨e.b,0,none⟩=some (.int .i64 e.q.sp)/\w7.cell? ⟨e.b,1,none⟩=some (.int .i64 e.q.sl))/\Cells w7 (w.heap.size+1) 46 [.int .i64 0,.int .i64 0] /\
   ∀u v,Z8E q e w ((w7.setCell ⟨w.heap.size+1,0,none⟩ u).setCell ⟨w.heap.size+1,1,none⟩ v)
theorem Q9k {w w2 w3:World} {q q1:FO} {e:En Nd} (h:Sep w q.hl) (ok:q.Ok) (Af:Below (Q0F w e.id).heap.size (Q0F w e.id) w2) (st:Step q.hl q1.hl w w3) (Fo:find q1.N e.id=some e) (Ae:q1.N.Pairwise (fun a b=>a.id≠b.id)) (hs:q1.N.Pairwise (fun a b=>(a.q.sp,a.q.sl)≠(b.q.sp,b.q.sl))) (hn:∀e∈q1.N,0<=e.q.sp/\e.q.sp<4294967296/\0<=e.q.sl/\e.q.sl<256)
  (e1:q1.cut e.id=q.dropped e) (e2:q1.kr=q.kr) (f1:q1.f=q.f) (f2:q1.m=q.m) (f3:q1.o=q.o) (BK:w3.cell? ⟨w.heap.size,0,none⟩=some (.int .i64 e.id)) (Aj:Cells w3 (w.heap.size+1) 46 [.int .i64 0,.int .i64 0]) (Eg:∀b∈keys q1.hl,b∈keys q.hl):J0o q q1 e w w3:=by
 have Cn:GB<=w.heap.size:=h.env.gb;have AA:=st.sep;obtain⟨w5,r5,s5,BE⟩:=FO.delSteps AA.drew Ae hs hn Fo 3 0 46 0;obtain⟨w7,r7,s7⟩:=BE w5.drew (Below.refl _ _).drew;rw [f2] at r5;rw [f3] at r7;have nd5:Cells w5 e.b 287 (e.q.cells (q1.kr e.id)):=by
  obtain⟨A,B,hN,_,_⟩:=Q3b Ae Fo;exact s5.sep.cells (by rw [hN];simp [ndH])
 have nd7:Cells w7 e.b 287 (e.q.cells (q1.kr e.id)):=s7.sep.right.cells (by simp [ndH]);have st7:Step q.hl ((q1.cut e.id).hl++ndH q1.kr e) w w7:=st.trans s7.from_drew;rw [e1,e2] at st7;have c1:=FO.c1 AA;have QS:w5.cell? ⟨q1.f,1,none⟩=some (.map (some q1.o)):=(s5.sep.cells (b:=q1.f) (T:=282) (cs:=[.map (some q1.m),.map (some q1.o),.int .i64 q1.next]) (by simp [FO.head])).cell 1 _ rfl;rw [f1,f3] at QS;have ML:=FO.c0 AA;rw [f1,f2] at ML;rw [f1,f3] at c1;refine⟨ML,c1,BK,w5,r5,⟨QS,nd5.cell 0 _ rfl,nd5.cell 1 _ rfl⟩,w7,r7,⟨nd7.cell 0 _ rfl,nd7.cell 1 _ rfl⟩,Aj.same (s7.from_drew.chg.block _ Aj.lt fun hk=>by have:=h.lt (Eg _ hk);omega),fun u v=>?_⟩
 have Fg:w.heap.size+1∉keys ((q.dropped e).hl++ndH q.kr e):=fun hk=>by
  rw [<- e1,<- e2] at hk;have h1:=((FO.cut_perm Ae Fo).map Prod.fst).mem_iff.2 hk;have h2:w.heap.size+1∈keys q1.hl:=by
   simpa [FO.hl,keys] using h1
  have:=h.lt (Eg _ h2);omega
 exact (st7.set_aside (J6d _) Fg Cn 0 u).set_aside (J6d _) Fg Cn 1 v
theorem Z6p {q:FO} (Ae:q.N.Pairwise (fun a b=>a.id≠b.id)) {id:Int} {c:En Nd} (hf:find q.N id=some c) {n:Nd} {g cap:Nat} (CP:q.kr id=some (g,cap)) (h1:n.sp=c.q.sp) (h2:n.sl=c.q.sl):∀b∈keys (q.setN id n (some (g,cap))).hl,b∈keys q.hl:=fun b hb=>by
 obtain⟨R,p1,p2⟩:=FO.split Ae hf;rw [CP] at p1;have k1:=((p2 n (some (g,cap)) h1 h2).map Prod.fst).mem_iff.1 hb;exact (p1.map Prod.fst).mem_iff.2 (by simpa [rowH] using k1)
theorem Z3g {w:World} {q:FO} (h:Sep w q.hl) (ok:q.Ok) {e p:En Nd} (he:find q.N e.id=some e) (hp:find q.N e.q.par=some p) :
  ∃g cap:Nat,∀w2,Below (Q0F w e.id).heap.size (Q0F w e.id) w2->w2.cell? ⟨e.b,2,none⟩=some (.int .i64 e.q.par) /\
   Calls prog 162 #[.pointer (some ⟨q.f,0,none⟩),.int .i64 e.q.par] w2 (fun r w'=>r=.returned (.pointer (some ⟨p.b,0,none⟩))/\w2=w')/\w2.cell? ⟨p.b,3,none⟩=some (.slice (some ⟨g,0,none⟩) p.q.ks.length cap) /\
   Calls prog 267 #[.slice (some ⟨g,0,none⟩) p.q.ks.length cap,.func (.func 268) #[] #[.pointer (some ⟨w.heap.size,0,none⟩)]] w2 fun r w3=>r=.returned (.slice (some ⟨g,0,none⟩) (cutK p.q e.id).ks.length cap)/\w3.frozen? ⟨p.b,3,none⟩=false/\(∃v,w3.cell? ⟨p.b,3,none⟩=some v) /\
    ∃q1,J0o q q1 e w (w3.setCell ⟨p.b,3,none⟩ (.slice (some ⟨g,0,none⟩) (cutK p.q e.id).ks.length cap)):=by
 obtain⟨Bs,_⟩:=Q0b he;obtain⟨BG,Fw⟩:=Q0b hp;have Aa:e.id≠e.q.par:=by have:=ok.n.rise e Bs;omega
 have hB:=Q2V w e.id;have IR:Cells (Q0F w e.id) w.heap.size 3 [.int .i64 e.id]:=(Cells.new w 3 [.int .i64 e.id]).alloc (.cells #[.int .i64 0,.int .i64 0] 46);have Bv:(Q0F w e.id).heap.size=w.heap.size+2:=by simp [Q0F]
 have facts:∀w2,Below (Q0F w e.id).heap.size (Q0F w e.id) w2->Below w.heap.size w w2/\w2.cell? ⟨w.heap.size,0,none⟩=some (.int .i64 e.id)/\w.heap.size+2<=w2.heap.size:=fun w2 hb=>⟨hB.trans (hb.mono (by omega)),(IR.same (hb.block _ (by omega))).cell 0 _ rfl,by have:=hb.size;omega⟩
 have Fg:w.heap.size∉keys q.hl:=fun hk=>by have:=h.lt hk;omega
 obtain⟨g,cap,CP,_⟩:=FO.cutRow (w:=Q0F w e.id) (h.grown hB).sep ok he hp (b:=w.heap.size) (IR.cell 0 _ rfl) Fg (by omega);refine⟨g,cap,fun w2 hb=>?_⟩;obtain⟨Ak,BK,FZ⟩:=facts w2 hb;have s2:=(h.grown Ak).sep;have c3:=(FO.nd0 s2 hp).2.2.2;rw [Fw,CP] at c3;refine⟨(FO.nd0 s2 he).2.2.1,Q2S s2 hp,c3,?_⟩;obtain⟨g',BA,Md,Bd⟩:=FO.cutRow s2 ok he hp BK Fg (by omega);rw [CP] at Md;cases Md;refine Bd.mono ?_;rintro r w3 ⟨rfl,Ar,Cz,Cm,st⟩;obtain⟨e1,e2⟩:=Z8F ok (e:=e) hp CP;refine⟨rfl,Cz,Cm,q.setN e.q.par (cutK p.q e.id) (some (g,cap)),?_⟩;refine Q9k h ok hb ((h.grown Ak).trans st) (Z6o he Aa _ _) (Q2e (fun _ _ h=>h) ok.n.ids) ?_ ?_ e1 e2 rfl rfl rfl ?_ ?_ (Z6p ok.n.ids hp CP rfl rfl)
 ·show (mapE _ q.N).Pairwise _;unfold mapE;refine J2q.2 (J5v ?_ ok.n.spots);intro a b ha hb CF;have sp:∀c∈q.N,(if c.id=e.q.par then cutK p.q e.id else c.q).sp=c.q.sp/\(if c.id=e.q.par then cutK p.q e.id else c.q).sl=c.q.sl:=fun c hc=>by
   split
   ·rename_i GI;rw [Q9h ok.n.ids hc GI hp];exact⟨rfl,rfl⟩
   ·exact⟨rfl,rfl⟩
  simp only [(sp a ha).1,(sp a ha).2,(sp b hb).1,(sp b hb).2];exact CF
 ·intro d hd;obtain⟨c,hc,rfl⟩:=Q1m (show d∈mapE _ q.N from hd);have:=ok.n.sm c hc;simp only;split
  ·rename_i GI;rw [Q9h ok.n.ids hc GI hp] at this;exact this
  ·exact this
 ·have Aa:w.heap.size≠p.b:=fun hx=>Fg (by
   have:p.b∈keys q.hl:=by
    obtain⟨A,B,hN,_,_⟩:=Q3b ok.n.ids hp;simp only [FO.hl,keys,J1O,List.map_flatMap];refine J6e _ (J6e _ (J6e _ (J2l.2 ⟨p,BG,?_⟩)));simp [ndH]
   rw [hx];exact this)
  exact (World.cell?_of_block (Below.heap_setCell _ _ _ _ (by simpa using Aa))).trans Ar
 ·have B3:Cells (Q0F w e.id) (w.heap.size+1) 46 [.int .i64 0,.int .i64 0]:=by
   have:=Cells.new (w.alloc (.cells #[.int .i64 e.id] 3)) 46 [.int .i64 0,.int .i64 0];rw [show (w.alloc (.cells #[.int .i64 e.id] 3)).heap.size=w.heap.size+1 by simp] at this;exact this
  have LM:=B3.same (hb.block _ (by omega));exact LM.same (st.chg.block _ LM.lt fun hk=>by have:=h.lt hk;omega)
theorem Z6q {w:World} {q:FO} (h:Sep w q.hl) (ok:q.Ok) {e p:En Nd} (he:find q.N e.id=some e) (hp:find q.N e.q.par=some p) :
  Calls prog 235 #[.pointer (some ⟨q.f,0,none⟩),.int .i64 e.id] w fun r w'=>(∃v,r=.returned v)/\Z8E q e w w':=by
 have hb:=Q2V w e.id;have IR:=(Cells.new w 3 [.int .i64 e.id]).alloc (.cells #[.int .i64 0,.int .i64 0] 46);have b0:=IR.cell 0 _ rfl;have F9:=(h.grown hb).sep;have c0:=FO.c0 F9;have hl:=FO.look_some F9 he;have R0:(Q0F w e.id).drew.cell? ⟨q.f,0,none⟩=some (.map (some q.m)):=c0;have b0d:(Q0F w e.id).drew.cell? ⟨w.heap.size,0,none⟩=some (.int .i64 e.id):=b0;have Hh:=FO.look_some F9.drew he;obtain⟨g,cap,E3⟩:=Z3g h ok he hp;obtain⟨k2,Fp,k3,Ml⟩:=E3 _ (Below.refl _ _).drew;have G6:=Q0a Ml;unfold Q0F at *
 clear h ok he hp hb F9 IR E3 Ml;go_enter func235,ntmps235;go_wp2_with fail;go_region;go_wp2_with fail;refine Fp.mono ?_;rintro r w' ⟨rfl,rfl⟩;go_wp2_with fail;refine G6.out.mono ?_;rintro r w3 ⟨rfl,Cz,⟨v,Cm⟩,q1,hE⟩;obtain⟨Ol,Sp,b0e,w5,r5,⟨KN,e05,e15⟩,w7,r7,⟨e07,e17⟩,Aj,hz⟩:=hE;have HZ:=Q0a hz;generalize (cutK p.q e.id).ks.length=kl at *
 have OL:(w3.setCell ⟨p.b,3,none⟩ (.slice (some ⟨g,0,none⟩) kl cap)).drew.cell? ⟨q.f,0,none⟩=some (.map (some q.m)):=Ol;have b0e':(w3.setCell ⟨p.b,3,none⟩ (.slice (some ⟨g,0,none⟩) kl cap)).drew.cell? ⟨w.heap.size,0,none⟩=some (.int .i64 e.id):=b0e;have Oj:w5.drew.cell? ⟨q.f,1,none⟩=some (.map (some q.o)):=KN;have e05':w5.drew.cell? ⟨e.b,0,none⟩=some (.int .i64 e.q.sp):=e05;have e15':w5.drew.cell? ⟨e.b,1,none⟩=some (.int .i64 e.q.sl):=e15;clear hz G6 Fp hl Hh c0 R0 b0 b0d k2 k3;go_wp2_with fail;go_region;go_wp2_with fail;go_region;have g0:=Aj.cell 0 _ rfl;have g1:=Aj.cell 1 _ rfl
 have gf0:=Aj.free 0;have gf1:=Aj.free 1;have glt:=Aj.lt;clear Aj;go_wp2_with fail;refine bodyPost_ret (v:=.agg #[.int .i64 e.q.sp,.int .i64 e.q.sl]) (by simp [results,results235,go_sem,g0,g1]) rfl ⟨⟨_,rfl⟩,HZ.out _ _⟩
theorem Z3h {w:World} {q:FO} (h:Sep w q.hl) (ok:q.Ok) {e:En Nd} (he:find q.N e.id=some e) (hp:find q.N e.q.par=none) :
  Calls prog 235 #[.pointer (some ⟨q.f,0,none⟩),.int .i64 e.id] w fun r w'=>(∃v,r=.returned v)/\Z8E q e w w':=by
 have hb:=Q2V w e.id;have IR:=(Cells.new w 3 [.int .i64 e.id]).alloc (.cells #[.int .i64 0,.int .i64 0] 46);have b0:=IR.cell 0 _ rfl;have F9:=(h.grown hb).sep;have c0:=FO.c0 F9;have hl:=FO.look_some F9 he;have R0:(Q0F w e.id).drew.cell? ⟨q.f,0,none⟩=some (.map (some q.m)):=c0;have b0d:(Q0F w e.id).drew.cell? ⟨w.heap.size,0,none⟩=some (.int .i64 e.id):=b0;have Hh:=FO.look_some F9.drew he;have Fp:=Q4L F9.drew hp;have k2:=(FO.nd0 F9.drew he).2.2.1;have B3:Cells (Q0F w e.id) (w.heap.size+1) 46 [.int .i64 0,.int .i64 0]:=by
  have:=Cells.new (w.alloc (.cells #[.int .i64 e.id] 3)) 46 [.int .i64 0,.int .i64 0];rw [show (w.alloc (.cells #[.int .i64 e.id] 3)).heap.size=w.heap.size+1 by simp] at this;exact this
 have Aq:∀c∈q.N,c.id≠e.q.par:=fun c hc hx=>by
  have:=Q0g ok.n.ids hc;rw [hx,hp] at this;cases this
 have e1:q.cut e.id=q.dropped e:=by
  unfold FO.cut FO.dropped;rw [Z6j Aq]
 have hE:J0o q q e w (Q0F w e.id).drew:=Q9k h ok ((Below.refl _ _).drew) ((h.grown hb).drew) he ok.n.ids ok.n.spots (fun c hc=>ok.n.sm c hc) e1 rfl rfl rfl rfl b0d B3 (fun _ h=>h);obtain⟨Ol,Sp,b0e,w5,r5,⟨KN,e05,e15⟩,w7,r7,⟨e07,e17⟩,Aj,hz⟩:=hE;have HZ:=Q0a hz;have OL:(Q0F w e.id).drew.drew.cell? ⟨q.f,0,none⟩=some (.map (some q.m)):=Ol;have b0e':(Q0F w e.id).drew.drew.cell? ⟨w.heap.size,0,none⟩=some (.int .i64 e.id):=b0e;have Oj:w5.drew.cell? ⟨q.f,1,none⟩=some (.map (some q.o)):=KN;have e05':w5.drew.cell? ⟨e.b,0,none⟩=some (.int .i64 e.q.sp):=e05;have e15':w5.drew.cell? ⟨e.b,1,none⟩=some (.int .i64 e.q.sl):=e15
 have g0:=Aj.cell 0 _ rfl;have g1:=Aj.cell 1 _ rfl;have gf0:=Aj.free 0;have gf1:=Aj.free 1;have glt:=Aj.lt;clear h ok he hp hb F9 IR B3 Aq e1 hz Aj;unfold Q0F at *
 go_enter func235,ntmps235;go_wp2_with fail;go_region;go_wp2_with fail;refine Fp.mono ?_;rintro r w' ⟨rfl,rfl⟩;clear Fp hl Hh c0 b0 k2;go_wp2_with fail;go_region;go_wp2_with fail;go_region;go_wp2_with fail;refine bodyPost_ret (v:=.agg #[.int .i64 e.q.sp,.int .i64 e.q.sl]) (by simp [results,results235,go_sem,g0,g1]) rfl ⟨⟨_,rfl⟩,HZ.out _ _⟩
theorem Z6r {w:World} {q:FO} (h:Sep w q.hl) (ok:q.Ok) {e:En Nd} (he:find q.N e.id=some e) :
  Calls prog 235 #[.pointer (some ⟨q.f,0,none⟩),.int .i64 e.id] w fun r w'=>(∃v,r=.returned v)/\Z8E q e w w':=by
 cases hp:find q.N e.q.par with
 | none=>exact Z3h h ok he hp
 | some p=>exact Z6q h ok he hp
def J1g (q:FO) (e:En Nd) (w w':World):Prop:=∃F':FO,F'.f=q.f/\F'.N=Q0v q.N e e.q.ks.length/\F'.next=q.next/\F'.Ok/\Step q.hl F'.hl w w'
theorem Z6s {w w':World} {q F:FO} {e:En Nd} (ok:q.Ok) (he:find q.N e.id=some e) (L:Z3f q e e.q.ks.length F) (st:Step q.hl (F.hl++ndH q.kr e) w w'):J1g q e w w':=by
 refine⟨F,L.f,L.N,L.next,⟨by rw [L.N,L.next];exact ok.n.lift he,by rw [L.next];exact ok.lim,L.rv,?_⟩,st.drop (J2B _ _)⟩;rw [L.N];unfold Q0v mapE;rw [J3v];exact J1M (Q1A q.N e.id).length_le ok.few
theorem Z3i {q:FO} (ok:q.Ok) (e:En Nd):Z3f q e 0 (q.dropped e):=⟨rfl,rfl,rfl,rfl,rfl,fun c hc=>by
 obtain⟨d,hd,rfl⟩:=Q1m (show c∈mapE _ (rem q.N e.id) from hc);have h0:=ok.rv d (Q7G hd);show rvOk (q.kr d.id) (Q0s e 0 d).ks.length;have Dr:(Q0s e 0 d).ks.length<=d.q.ks.length:=by
  unfold Q0s;simp only [J5l,J3S];split
  ·exact J4b _ _
  ·exact J1L _
 cases hk:q.kr d.id with
 | none =>
  rw [hk] at h0;have Dd:d.q.ks.length=0:=h0;show (Q0s e 0 d).ks.length=0;omega
 | some gc =>
  rw [hk] at h0;obtain⟨g,cap⟩:=gc;have Dd:d.q.ks.length<=cap/\cap<=maxLen:=h0;exact⟨by omega,Dd.2⟩⟩
theorem Q9l {w:World} {q:FO} (h:Sep w q.hl) (ok:q.Ok) {e:En Nd} (he:find q.N e.id=some e) :
  Calls prog 166 #[.pointer (some ⟨q.f,0,none⟩),.int .i64 e.id] w fun r w'=>(∃v,r=.returned v)/\J1g q e w w':=by
 have ka:=Q2S h he;obtain⟨Bs,_⟩:=Q0b he;have kd:=Z6r h ok he;have Fs:=ok.n.kids_few Bs;have Cy:=ok.few;have HD:=Q0a kd;have Ct:=Q0a ok;have HE:=Q0a he;have Ac:e.q.ks.length<=65536:=by omega
 clear kd h ok he Bs;go_enter func166,ntmps166;go_wp2_with fail;refine ka.mono ?_;rintro r w1 ⟨rfl,rfl⟩;go_wp2_with fail;refine HD.out.mono ?_;rintro r w1 ⟨⟨v,rfl⟩,st⟩;have AX:Cells w1 e.b 287 (e.q.cells (q.kr e.id)):=st.sep.right.cells (by simp [ndH]);have c3:=AX.cell 3 _ rfl;have BO:=Q0a st;have QQ:=Q0a (rfl:e.q.ks.length=e.q.ks.length);have JP:∃(a:Option Addr) (cap:Nat),lvOf (q.kr e.id) e.q.ks.length=.slice a e.q.ks.length cap/\(∀g c,q.kr e.id=some (g,c)->a=some ⟨g,0,none⟩)/\(q.kr e.id=none->e.q.ks.length=0):=by
  have AO:=Ct.out.rv e (Q0b HE.out).1;cases CP:q.kr e.id with
  | none =>
   rw [CP] at AO;have Cw:e.q.ks.length=0:=AO;exact⟨none,0,by rw [Cw];rfl,fun _ _ h=>by (cases h),fun _=>Cw⟩
  | some gc=>exact⟨some ⟨gc.1,0,none⟩,gc.2,rfl,fun g c h=>by cases h;rfl,fun h=>by cases h⟩
 obtain⟨a0,cap,Nv,Jn,AU⟩:=JP;rw [Nv] at c3;have KY:=Q0a Jn;have Gp:=Q0a AU;have EU:=Q0a Ac;clear st ka HD AX Nv Jn AU Fs Cy;go_wp2_with fail
 go_loopg [26] e.q.ks.length (fun gk iv wr=>∃(j:Nat) (F:FO),iv=.int .i64 j/\j+gk=e.q.ks.length/\Z3f q e j F/\Step q.hl (F.hl++ndH q.kr e) w wr)
 case atStart=>exact⟨0,q.dropped e,rfl,by omega,Z3i Ct.out e,BO.out⟩
 case round =>
  obtain⟨j,F,rfl,Ew,hL,st⟩:=hrel;have HL:=Q0a hL;have Jk:=Q0a Ew;have HS:=Q0a st;by_cases hj:j<e.q.ks.length
  ·obtain⟨k,hk⟩:∃k,e.q.ks[j]?=some k:=⟨e.q.ks[j],J4d hj⟩
   have A0:∃g,a0=some ⟨g,0,none⟩/\wr.cell? ⟨g,j,none⟩=some (.int .i64 k):=by
    cases CP:q.kr e.id with
    | none=>have:=Gp.out CP;omega
    | some gc =>
     have hr:=st.sep.right.tail;rw [CP] at hr;exact⟨gc.1,KY.out gc.1 gc.2 CP,Q0Y hr j _ (by rw [J3x,hk];rfl)⟩
   obtain⟨g,rfl,DO⟩:=A0;obtain⟨c,FU,⟨f0,e2,Cz,v,Cm⟩,Lu,ee2,Eh⟩:=Q7n Ct.out HE.out hL st.sep hk;obtain⟨c',Hu,⟨f0',e2',NV,v',O8⟩,Ov,ee2',-⟩:=Q7n Ct.out HE.out hL st.sep.drew hk;rw [FU] at Hu;obtain rfl:c=c':=J2J Hu;have KJ:F.f=q.f:=hL.f;rw [KJ] at f0 f0';have hW:=Eh _ (Below.refl _ _).drew;rw [KJ] at hW;have ee2d:(wr.setCell ⟨c.b,2,none⟩ (.int .i64 e.q.par)).drew.cell? ⟨e.b,2,none⟩=some (.int .i64 e.q.par):=ee2;by_cases AW:find q.N e.q.par=none
   ·obtain⟨Fp,F',L',st'⟩:=hW.1 AW;have Pj:=Q0a L';have O3:=Q0a (st.trans st');have N6:(j:Int)<(e.q.ks.length:Int):=by omega
    have Fq:(0:Int)<=(j:Int):=by omega
    have RA:(j:Int)<65536:=by have:=EU.out;omega
    generalize e.q.ks.length=n at *
    clear Eh hW FU Hu L' st' hL st hk Ew Ac Gp;go_wp2_with fail;go_region;go_wp2_with fail;refine Fp.mono ?_;rintro r w' ⟨rfl,rfl⟩;go_wp2_with fail;go_roundg (n-(j+1))
    case measure=>have:=Jk.out;omega
    case rel=>exact⟨j+1,F',by go_num,by have:=Jk.out;omega,Pj.out,O3.out⟩
   ·obtain⟨pb,V,Fp,QG,⟨ua,un,uc,rfl⟩,V',w',rap,⟨va,vn,vc,rfl⟩,Vx,pfr,F',L',st'⟩:=hW.2 AW;have Pj:=Q0a L';have O3:=Q0a (st.trans st');have N6:(j:Int)<(e.q.ks.length:Int):=by omega
    have Fq:(0:Int)<=(j:Int):=by omega
    have RA:(j:Int)<65536:=by have:=EU.out;omega
    have Vr:((wr.setCell ⟨c.b,2,none⟩ (.int .i64 e.q.par)).drew.alloc (.cells #[.int .i64 k] 3)).cell? ⟨pb,3,none⟩=some (.slice ua un uc):=(World.cell?_of_block (Below.heap_alloc _ _ _ (World.block_lt_of_cell? _ ⟨pb,3,none⟩ QG))).trans QG;have pf3:=pfr 3;generalize e.q.ks.length=n at *
    clear Eh hW FU Hu L' st' hL st hk Ew Ac Gp pfr;go_wp2_with fail;go_region;go_wp2_with fail;refine Fp.mono ?_;rintro r w' ⟨rfl,rfl⟩;generalize hW0:(wr.setCell ⟨c.b,2,none⟩ (.int .i64 e.q.par)).drew=W0 at *
    clear f0 e2 Cz Cm Lu ee2 f0' e2' NV O8 Ov ee2' ee2d DO Fp hW0;go_wp2_with (at_builtin;refine Lib.wpList_append_run _ rfl _ _ _ _ rfl _ _ rfl rfl _ _ rap ?_);go_roundg (n-(j+1))
    case measure=>have:=Jk.out;omega
    case rel=>exact⟨j+1,F',by go_num,by have:=Jk.out;omega,Pj.out,O3.out⟩
  ·obtain rfl:j=e.q.ks.length:=by omega
   have HR:=Q0a (Z6s Ct.out HE.out hL st);generalize e.q.ks.length=n at *
   clear hL st Ac;go_wp2_with fail
   first|exact⟨⟨_,rfl⟩,HR.out⟩|(go_ret;exact⟨⟨_,rfl⟩,HR.out⟩)
end Go.Proofs.YtlakjlmaboioiaaGreatDoor
