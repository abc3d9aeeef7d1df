/- SpaceItems returns true at every input. No condition. Part of its proof. -/
import Derived.Test.YtlakjlmaboioiaaGreatDoorSi01
import Derived.Test.YtlakjlmaboioiaaGreatDoorSi16
import Derived.Test.YtlakjlmaboioiaaGreatDoorSi14
import Derived.Maps.AppendAt
import Derived.BigQuiet
import Derived.Deep.LoopGhost
set_option maxHeartbeats 4000000
set_option maxRecDepth 100000
set_option linter.unusedVariables false
namespace Go.Proofs.YtlakjlmaboioiaaGreatDoor
open Go.RowKit Go.Proofs.Tryz
theorem Z9a {N:List (En Nd)} (hs:N.Pairwise (fun a b=>(a.q.sp,a.q.sl)≠(b.q.sp,b.q.sl))) (hids:N.Pairwise (fun a b=>a.id≠b.id)) {id:Int} {e:En Nd} (hf:find N id=some e):delS (okv N) (e.q.sp,e.q.sl)=okv (rem N id):=by
 obtain⟨A,B,hN,_,hr⟩:=Q4x hids hf;rw [hr];rw [hN,J1g,J0U] at hs;obtain⟨_,⟨hB,_⟩,hA⟩:=hs
 conv=>lhs;rw [hN]
 unfold delS okv;rw [J3S,J0w,J2p,J4x,J3S];have a1:List.filter (fun q=>decide (q.1≠(e.q.sp,e.q.sl))) (A.map fun e=>((e.q.sp,e.q.sl),Value.int .i64 e.id))=A.map fun e=>((e.q.sp,e.q.sl),Value.int .i64 e.id):=by
  rw [J4t];intro x hx;obtain⟨c,hc,rfl⟩:=J0z.1 hx;show decide ((c.q.sp,c.q.sl)≠(e.q.sp,e.q.sl))=true;exact decide_eq_true (hA c hc e (by simp))
 have a2:List.filter (fun q=>decide (q.1≠(e.q.sp,e.q.sl))) (B.map fun e=>((e.q.sp,e.q.sl),Value.int .i64 e.id))=B.map fun e=>((e.q.sp,e.q.sl),Value.int .i64 e.id):=by
  rw [J4t];intro x hx;obtain⟨c,hc,rfl⟩:=J0z.1 hx;show decide ((c.q.sp,c.q.sl)≠(e.q.sp,e.q.sl))=true;exact decide_eq_true (hB c hc).symm
 rw [a1,a2,if_neg (by simp)]
def FO.cut (q:FO) (id:Int):FO:={q with N:=rem q.N id}
theorem FO.cut_perm {q:FO} (hids:q.N.Pairwise (fun a b=>a.id≠b.id)) {id:Int} {e:En Nd} (hf:find q.N id=some e) :
  (q.head::(q.m,isMI (kvs (rem q.N id)))::(q.o,isMS (okv (rem q.N id)))::q.N.flatMap (ndH q.kr)).Perm ((q.cut id).hl++ndH q.kr e):=by
 obtain⟨A,B,hN,_,hr⟩:=Q4x hids hf;have e1:(q.cut id).hl=q.head::(q.m,isMI (kvs (rem q.N id)))::(q.o,isMS (okv (rem q.N id)))::(A.flatMap (ndH q.kr)++B.flatMap (ndH q.kr)):=by
  show q.head::(q.m,isMI (kvs (rem q.N id)))::(q.o,isMS (okv (rem q.N id)))::(rem q.N id).flatMap (ndH q.kr)=_;rw [hr,J1b]
 have e2:q.N.flatMap (ndH q.kr)=A.flatMap (ndH q.kr)++(ndH q.kr e++B.flatMap (ndH q.kr)):=by
  conv=>lhs;rw [hN]
  rw [J1b,J0Q]
 rw [e1,e2];simp only [J2D];refine List.Perm.cons _ (List.Perm.cons _ (List.Perm.cons _ ?_));rw [J1s];exact J3h _ J3f
theorem FO.spots_ok {q:FO} (hn:∀e∈q.N,0<=e.q.sp/\e.q.sp<4294967296/\0<=e.q.sl/\e.q.sl<256):∀p∈okv q.N,Q1x prog 46 p.1:=fun p hp=>by
 obtain⟨c,hc,rfl⟩:=J0z.1 hp;obtain⟨h1,h2,h3,h4⟩:=hn c hc;exact Q2R (p:=(c.q.sp,c.q.sl)) h1 (by show c.q.sp<_;omega) h3 (by show c.q.sl<_;omega)
theorem FO.okv_nd {N:List (En Nd)} (hs:N.Pairwise (fun a b=>(a.q.sp,a.q.sl)≠(b.q.sp,b.q.sl))):(okv N).Pairwise (fun a b=>a.1≠b.1):=by
 unfold okv;exact J0Y.2 hs
theorem FO.delSteps {w:World} {q:FO} (h:Sep w q.hl) (hids:q.N.Pairwise (fun a b=>a.id≠b.id)) (hs:q.N.Pairwise (fun a b=>(a.q.sp,a.q.sl)≠(b.q.sp,b.q.sl))) (hn:∀e∈q.N,0<=e.q.sp/\e.q.sp<4294967296/\0<=e.q.sl/\e.q.sl<256)
  {id:Int} {e:En Nd} (hf:find q.N id=some e) (t1 t2 t3 t4:TypeId) :
  ∃w3,(Builtin.delete_ #[279,t1] t2 #[.map (some q.m),.int .i64 id]).run prog w=.ok (.tuple #[]) w3/\Step q.hl (q.head::(q.m,isMI (kvs (rem q.N id)))::(q.o,isMS (okv q.N))::q.N.flatMap (ndH q.kr)) w w3 /\
   ∀w3',Below w3.heap.size w3 w3'->∃w4,(Builtin.delete_ #[280,t3] t4 #[.map (some q.o),.agg #[.int .i64 e.q.sp,.int .i64 e.q.sl]]).run prog w3'=.ok (.tuple #[]) w4/\Step q.hl ((q.cut id).hl++ndH q.kr e) w w4:=by
 obtain⟨hem,heid⟩:=Q0b hf;obtain⟨w3,r3,m3,g3⟩:=Q3s (FO.map h) id t1 t2 underlying279 underlying3;rw [Z8g] at m3;obtain⟨es,clock,ho,hr⟩:=m3;have s3:=Sep.turn (A:=[q.head]) (B:=(q.o,isMS (okv q.N))::q.N.flatMap (ndH q.kr)) (q':=isMI (kvs (rem q.N id))) h g3 ⟨_,ho,es,clock,rfl,hr⟩;refine⟨w3,r3,s3,fun w3' hb=>?_⟩;have s3':=s3.trans (s3.sep.grown hb);have m3':Q2N w3' q.o (okv q.N):=s3'.sep.map (by simp [isMS]);have hse:=hn e hem;obtain⟨w4,r4,m4,g4⟩:=Q5F m3' Q9z (FO.okv_nd hs) (FO.spots_ok hn) (Q2R (p:=(e.q.sp,e.q.sl)) hse.1 (by show e.q.sp<_;omega) hse.2.2.1 (by show e.q.sl<_;omega)) t3 t4 underlying280
 rw [Z9a hs hids hf] at m4;obtain⟨es4,clock4,ho4,hr4⟩:=m4;have s4:=Sep.turn (A:=[q.head,(q.m,isMI (kvs (rem q.N id)))]) (B:=q.N.flatMap (ndH q.kr)) (q':=isMS (okv (rem q.N id))) s3'.sep g4 ⟨_,ho4,es4,clock4,rfl,hr4⟩;exact⟨w4,r4,(s3'.trans s4).perm (J3K _) (FO.cut_perm hids hf)⟩
theorem Z0Q (f:En Nd->Nd):∀(N:List (En Nd)) (id:Int),rem (mapE f N) id=mapE f (rem N id)
 | [],_=>rfl
 | c::r,id=>by
  show rem ({c with q:=f c}::mapE f r) id=mapE f (rem (c::r) id);unfold rem;show (if id=c.id then mapE f r else {c with q:=f c}::rem (mapE f r) id)=_;rw [Z0Q f r id];split <;> rfl
theorem Q8t {N:List (En Nd)} (hids:N.Pairwise (fun a b=>a.id≠b.id)) {c p:En Nd} {id:Int} (hc:c∈N) (hi:c.id=id) (hp:find N id=some p):c=p:=by
 have:=Q0g hids hc;rw [hi,hp] at this;exact (J1p this).symm
def cutK (p:Nd) (id:Int):Nd:={p with ks:=p.ks.filter fun k=>decide (k≠id)}
theorem Z7d {N:List (En Nd)} (hids:N.Pairwise (fun a b=>a.id≠b.id)) {e p:En Nd} (hp:find N e.q.par=some p) :
  rem (mapE (fun c=>if c.id=e.q.par then cutK p.q e.id else c.q) N) e.id=Q0v N e 0:=by
 rw [Z0Q];unfold Q0v;refine Q4G fun c hc=>?_
 have hcN:=Q7b hc;unfold Q0r;rw [J3Q];by_cases h:c.id=e.q.par
 ·have:=Q8t hids hcN h hp;subst this;simp [h,cutK]
 ·simp [h]
theorem Z4S {N:List (En Nd)} {e:En Nd} (h:∀c∈N,c.id≠e.q.par):rem N e.id=Q0v N e 0:=by
 unfold Q0v;rw [Q9t];intro c hc;have:=h c (Q7b hc);unfold Q0r;simp [this]
theorem Q5N {N:List (En Nd)} (hids:N.Pairwise (fun a b=>a.id≠b.id)) (e:En Nd) (j:Nat):(Q0v N e j).Pairwise (fun a b=>a.id≠b.id):=Q1J (fun _ _ h=>h) (hids.sublist (Q3B N e.id))
theorem Q5O {N:List (En Nd)} (hids:N.Pairwise (fun a b=>a.id≠b.id)) (e:En Nd) (j:Nat) (id:Int):find (Q0v N e j) id=if id=e.id then none else (find N id).map fun c=>{c with q:=Q0r e j c}:=by
 unfold Q0v;rw [Q1j,Z0e hids];split <;> rfl
theorem Z4T {N:List (En Nd)} (hids:N.Pairwise (fun a b=>a.id≠b.id)) {e:En Nd} {j:Nat} {k:Int} (hk:e.q.ks[j]?=some k) (hnd:e.q.ks.Nodup) {c p:En Nd} (hc:find (Q0v N e j) k=some c) (hkp:k≠e.q.par)
  (hp:find (mapE (fun d=>if d.id=k then {c.q with par:=e.q.par} else d.q) (Q0v N e j)) e.q.par=some p) :
  mapE (fun d=>if d.id=e.q.par then {p.q with ks:=p.q.ks++[k]} else d.q) (mapE (fun d=>if d.id=k then {c.q with par:=e.q.par} else d.q) (Q0v N e j))=Q0v N e (j+1):=by
 have hids2:=Q5N hids e j;obtain⟨hcm,hcid⟩:=Q0b hc;rw [Q5G];unfold Q0v at hids2 hc hp hcm ⊢;rw [Q5G];refine Q4G fun d hd=>?_
 have htk:e.q.ks.take (j+1)=e.q.ks.take j++[k]:=by
  rw [J2o,hk];rfl
 have hdm:({d with q:=Q0r e j d}:En Nd)∈mapE (Q0r e j) (rem N e.id):=J0z.2 ⟨d,hd,rfl⟩;by_cases h1:d.id=e.q.par
 ·have h2:d.id≠k:=fun h=>hkp (by rw [<- h,h1])
  have hpe:p={d with q:=Q0r e j d}:=by
   have hx:find (mapE (fun d=>if d.id=k then {c.q with par:=e.q.par} else d.q) (mapE (Q0r e j) (rem N e.id))) d.id=some ({d with q:=Q0r e j d}:En Nd):=by
    rw [Q1j];have:=Q0g hids2 hdm;simp only at this;rw [this];simp only [J2g,if_neg h2]
   exact (J1p (hx.symm.trans ((congrArg (find _) h1).trans hp))).symm
  simp only [h1,if_true];rw [hpe];have h3:¬e.q.par=k:=fun h=>hkp h.symm
  unfold Q0r;simp only [h1,if_true,htk,J1h,J2z,h3,or_false,J1s]
 ·simp only [h1,if_false];by_cases h2:d.id=k
  ·simp only [h2,if_true];have hcd:c={d with q:=Q0r e j d}:=Q8t hids2 hdm h2 hc |>.symm;rw [hcd];have h3:¬k=e.q.par:=hkp;unfold Q0r;simp only [h2,h3,if_false,htk,J1h,J2z,or_true,if_true]
  ·simp only [h2,if_false];unfold Q0r;simp only [h1,if_false,htk,J1h,J2z,h2,or_false]
theorem Z2b {N:List (En Nd)} (hids:N.Pairwise (fun a b=>a.id≠b.id)) {e:En Nd} {j:Nat} {k:Int} (hk:e.q.ks[j]?=some k) {c:En Nd} (hc:find (Q0v N e j) k=some c) (hno:∀d∈N,d.id≠e.q.par) :
  mapE (fun d=>if d.id=k then {c.q with par:=e.q.par} else d.q) (Q0v N e j)=Q0v N e (j+1):=by
 have hids2:=Q5N hids e j;unfold Q0v at hids2 hc ⊢;rw [Q5G];refine Q4G fun d hd=>?_
 have htk:e.q.ks.take (j+1)=e.q.ks.take j++[k]:=by
  rw [J2o,hk];rfl
 have hdm:({d with q:=Q0r e j d}:En Nd)∈mapE (Q0r e j) (rem N e.id):=J0z.2 ⟨d,hd,rfl⟩;have h1:=hno d (Q7b hd);by_cases h2:d.id=k
 ·simp only [h2,if_true];have hcd:c={d with q:=Q0r e j d}:=Q8t hids2 hdm h2 hc |>.symm;rw [hcd];have h3:¬k=e.q.par:=h2 ▸ h1;unfold Q0r;simp only [h3,if_false,htk,J1h,J2z,h2,or_true,if_true]
 ·simp only [h2,if_false];unfold Q0r;simp only [h1,if_false,htk,J1h,J2z,h2,or_false]
structure Z2c (q:FO) (e:En Nd) (j:Nat) (F:FO):Prop where
 f:F.f=q.f
 m:F.m=q.m
 o:F.o=q.o
 N:F.N=Q0v q.N e j
 next:F.next=q.next
 rv:∀c∈F.N,rvOk (F.kr c.id) c.q.ks.length
theorem Z7e {N:List (En Nd)} {next:Int} (ok:NOk N next) {a b:En Nd} (ha:a∈N) (hb:b∈N) (hne:a.id≠b.id):a.q.ks.length+b.q.ks.length<=N.length:=by
 have hnd:(a.q.ks++b.q.ks).Nodup:=by
  rw [J1l];refine⟨ok.nd a ha,ok.nd b hb,fun x hx y hy hxy=>?_⟩;subst hxy;obtain⟨c,hc,h1⟩:=ok.kids a ha x hx;obtain⟨d,hd,h2⟩:=ok.kids b hb x hy;rw [hc] at hd;cases hd;exact hne (h1.symm.trans h2)
 have:=J4A hnd (l₂:=N.map En.id) (fun k hk=>by
  rcases J1h.1 hk with hk|hk
  ·obtain⟨c,hc,_⟩:=ok.kids a ha k hk;obtain⟨c1,c2⟩:=Q0b hc;exact J0z.2 ⟨c,c1,c2⟩
  ·obtain⟨c,hc,_⟩:=ok.kids b hb k hk;obtain⟨c1,c2⟩:=Q0b hc;exact J0z.2 ⟨c,c1,c2⟩)
 rwa [J1d,J2b] at this
theorem Z4U {F:FO} {id:Int} {c:En Nd} (hids:F.N.Pairwise (fun a b=>a.id≠b.id)) (hf:find F.N id=some c) (h:∀c∈F.N,rvOk (F.kr c.id) c.q.ks.length) {n:Nd} {rv:RV} (hn:rvOk rv n.ks.length):∀d∈(F.setN id n rv).N,rvOk ((F.setN id n rv).kr d.id) d.q.ks.length:=fun d hd=>by
 obtain⟨d0,hd0,rfl⟩:=Q1c (show d∈mapE _ F.N from hd);show rvOk (if d0.id=id then rv else F.kr d0.id) (if d0.id=id then n else d0.q).ks.length;split
 ·exact hn
 ·exact h d0 hd0
theorem Q6Q {wr:World} {q F:FO} {e:En Nd} {j:Nat} {k:Int} (ok:q.Ok) (he:find q.N e.id=some e) (L:Z2c q e j F) (hs:Sep wr (F.hl++ndH q.kr e)) (hj:e.q.ks[j]?=some k) :
  ∃c,find F.N k=some c/\(wr.cell? ⟨F.f,0,none⟩=some (.map (some F.m))/\wr.cell? ⟨e.b,2,none⟩=some (.int .i64 e.q.par)/\wr.frozen? ⟨c.b,2,none⟩=false/\∃v,wr.cell? ⟨c.b,2,none⟩=some v) /\
   (Instr.lookup 279 (.map (some F.m)) (.int .i64 k) false).run prog wr=.ok (.pointer (some ⟨c.b,0,none⟩)) wr /\
   ((wr.setCell ⟨c.b,2,none⟩ (.int .i64 e.q.par)).cell? ⟨e.b,2,none⟩=some (.int .i64 e.q.par)) /\
   ∀W1,Below (wr.setCell ⟨c.b,2,none⟩ (.int .i64 e.q.par)).heap.size (wr.setCell ⟨c.b,2,none⟩ (.int .i64 e.q.par)) W1 ->
    (find q.N e.q.par=none->Calls prog 162 #[.pointer (some ⟨F.f,0,none⟩),.int .i64 e.q.par] W1 (fun r w'=>r=.returned (.pointer none)/\W1=w') /\
     ∃F',Z2c q e (j+1) F'/\Step (F.hl++ndH q.kr e) (F'.hl++ndH q.kr e) wr W1) /\
    (find q.N e.q.par≠none->∃(pb:Nat) (V:Value),Calls prog 162 #[.pointer (some ⟨F.f,0,none⟩),.int .i64 e.q.par] W1 (fun r w'=>r=.returned (.pointer (some ⟨pb,0,none⟩))/\W1=w')/\W1.cell? ⟨pb,3,none⟩=some V/\(∃a n c,V=.slice a n c) /\
     ∃(V':Value) (w':World),(Builtin.append_ #[36,36] 36 #[V,.slice (some ⟨W1.heap.size,0,none⟩) 1 1]).run prog (W1.alloc (.cells #[.int .i64 k] 3))=.ok V' w'/\(∃a n c,V'=.slice a n c)/\w'.cell? ⟨pb,3,none⟩=some V/\(∀i,w'.frozen? ⟨pb,i,none⟩=false) /\
      ∃F',Z2c q e (j+1) F'/\Step (F.hl++ndH q.kr e) (F'.hl++ndH q.kr e) wr (w'.setCell ⟨pb,3,none⟩ V')):=by
 obtain⟨hem,_⟩:=Q0b he;have hkm:k∈e.q.ks:=J2G hj;obtain⟨d,hd,hdp⟩:=ok.n.kids e hem k hkm;obtain⟨hdm,hdid⟩:=Q0b hd;have hr1:=ok.n.rise d hdm;have hr2:=ok.n.rise e hem;have hke:k≠e.id:=by omega
 have hkp:k≠e.q.par:=by omega
 have hidsF:F.N.Pairwise (fun a b=>a.id≠b.id):=by rw [L.N];exact Q5N ok.n.ids e j
 have hfc:find F.N k=some {d with q:=Q0r e j d}:=by rw [L.N,Q5O ok.n.ids,if_neg hke,hd];rfl
 generalize hc:({d with q:=Q0r e j d}:En Nd)=c at hfc;obtain⟨hcm,hcid⟩:=Q0b hfc;have hsF:=hs.left;have hce:=hs.right;have hcells:Cells wr e.b 287 (e.q.cells (q.kr e.id)):=hce.cells (by simp [ndH]);obtain⟨R,p1,p2⟩:=FO.split hidsF hfc;have hcc:=(hsF.perm p1).cells (b:=c.b) (T:=287) (cs:=c.q.cells (F.kr k)) (by simp);have hset:=Sep.set (A:=[]) (B:=rowH (F.kr k) 3 1 (c.q.ks.map encI)++R) (hsF.perm p1) 2 (.int .i64 e.q.par);have hcl:(c.q.cells (F.kr k)).set 2 (.int .i64 e.q.par)=Nd.cells {c.q with par:=e.q.par} (F.kr k):=rfl;rw [hcl] at hset;have stF:Step F.hl (F.setN k {c.q with par:=e.q.par} (F.kr k)).hl wr (wr.setCell ⟨c.b,2,none⟩ (.int .i64 e.q.par)):=hset.perm p1.symm (p2 {c.q with par:=e.q.par} (F.kr k) rfl rfl).symm
 have st1:Step (F.hl++ndH q.kr e) ((F.setN k {c.q with par:=e.q.par} (F.kr k)).hl++ndH q.kr e) wr (wr.setCell ⟨c.b,2,none⟩ (.int .i64 e.q.par)):=by
  have:=Step.frame [] (ndH q.kr e) (by simpa using hs) stF
  simpa using this
 have hcells1:Cells (wr.setCell ⟨c.b,2,none⟩ (.int .i64 e.q.par)) e.b 287 (e.q.cells (q.kr e.id)):=st1.sep.right.cells (by simp [ndH]);refine⟨c,hfc,⟨FO.c0 hsF,hcells.cell 2 _ rfl,hcc.free 2,_,hcc.cell 2 _ rfl⟩,FO.look_some hsF hfc,hcells1.cell 2 _ rfl,fun W1 hW=>?_⟩;have st1':=st1.trans (st1.sep.grown hW);have hsF1:Sep W1 (F.setN k {c.q with par:=e.q.par} (F.kr k)).hl:=st1'.sep.left;have hids1:(F.setN k {c.q with par:=e.q.par} (F.kr k)).N.Pairwise (fun a b=>a.id≠b.id):=Q1J (fun _ _ h=>h) hidsF;have hrvc:=L.rv c hcm;rw [hcid] at hrvc;have hrv1:=Z4U hidsF hfc L.rv (n:={c.q with par:=e.q.par}) (rv:=F.kr k) hrvc
 have hkr1:∀i,(F.setN k {c.q with par:=e.q.par} (F.kr k)).kr i=F.kr i:=fun i=>by
  show (if i=k then F.kr k else F.kr i)=F.kr i;split
  ·rename_i h;rw [h]
  ·rfl
 have find1:∀id,find (F.setN k {c.q with par:=e.q.par} (F.kr k)).N id=(find F.N id).map fun d=>{d with q:=if d.id=k then {c.q with par:=e.q.par} else d.q}:=fun id=>Q1j _ _ _
 refine⟨fun hno=>?_,fun hyes=>?_⟩
 ·have hf0:find (F.setN k {c.q with par:=e.q.par} (F.kr k)).N e.q.par=none:=by
   rw [find1,L.N,Q5O ok.n.ids,hno];split <;> rfl
  refine⟨Q4o hsF1 hf0,F.setN k {c.q with par:=e.q.par} (F.kr k),⟨L.f,L.m,L.o,?_,L.next,hrv1⟩,st1'⟩;show mapE _ F.N=_;rw [L.N];exact Z2b ok.n.ids hj (by rw [<- L.N];exact hfc) fun d hd h=>by
   have:=Q0g ok.n.ids hd;rw [h,hno] at this;cases this
 ·obtain⟨p0,hp0⟩:=Option.ne_none_iff_exists'.1 hyes;obtain⟨hp0m,hp0id⟩:=Q0b hp0;have hpe:e.q.par≠e.id:=by omega
  have hfp:find (F.setN k {c.q with par:=e.q.par} (F.kr k)).N e.q.par=some {p0 with q:=Q0r e j p0}:=by
   rw [find1,L.N,Q5O ok.n.ids,if_neg hpe,hp0];simp only [J2g,J0H];rw [hp0id,if_neg (fun h=>hkp h.symm)]
  generalize hp:({p0 with q:=Q0r e j p0}:En Nd)=p at hfp;obtain⟨hpm,hpid⟩:=Q0b hfp;have hrvp:=hrv1 p hpm;rw [hpid] at hrvp;have htwo:=Z7e ok.n hp0m hem (by omega);have hfew:=ok.few;have hlen:p.q.ks.length<=65536:=by
   rw [<- hp];show (Q0r e j p0).ks.length<=_;unfold Q0r;simp only;split
   ·rw [J1d,J2L];have:=J2H (fun k=>decide (k≠e.id)) p0.q.ks;omega
   ·omega
  obtain⟨rv',w',r5,hrv',k3,kf,st5⟩:=FO.pushK hsF1 hids1 hfp hrvp hlen k 36;have c3:=(FO.nd hsF1 hfp).cell 3 (lvOf ((F.setN k {c.q with par:=e.q.par} (F.kr k)).kr p.id) p.q.ks.length) rfl;rw [hpid] at c3;have lvs:∀(rv:RV) (n:Nat),∃a n' c,lvOf rv n=.slice a n' c:=fun rv n=>by
   cases rv with
   | none=>exact⟨_,_,_,rfl⟩
   | some p=>exact⟨_,_,_,rfl⟩
  refine⟨p.b,_,Q2s hsF1 hfp,c3,lvs _ _,_,w',r5,?_,k3,kf,(F.setN k {c.q with par:=e.q.par} (F.kr k)).setN e.q.par {p.q with ks:=p.q.ks++[k]} rv',⟨L.f,L.m,L.o,?_,L.next,?_⟩,?_⟩
  ·cases rv' with
   | none=>exact⟨_,_,_,rfl⟩
   | some p=>exact⟨_,_,_,rfl⟩
  ·show mapE _ (mapE _ F.N)=_;have hx:=Z4T ok.n.ids (e:=e) (j:=j) (k:=k) hj (ok.n.nd e hem) (c:=c) (p:=p) (by rw [<- L.N];exact hfc) hkp (by rw [<- L.N];exact hfp);rw [L.N];exact hx
  ·exact Z4U hids1 hfp hrv1 (n:={p.q with ks:=p.q.ks++[k]}) (by rw [J1d,J4o];exact hrv')
  ·have:=Step.frame [] (ndH q.kr e) (by simpa using st1'.sep) st5;exact st1'.trans (by simpa using this)
theorem Q4q (x id:Int) (b:Nat) (w:World) (h:w.cell? ⟨b,0,none⟩=some (.int .i64 id)) :
  Calls prog 268 #[.int .i64 x,.pointer (some ⟨b,0,none⟩)] w fun e w'=>e=.returned (.bool (x==id))/\w=w':=by
 go_enter func268,ntmps268
 go_wp2
 go_ret;exact⟨rfl,rfl⟩
def Z9O (xs:List Int) (id:Int) (e:Ending):Prop:=
 (∃k:Nat,k<xs.length/\e=.returned (.int .i64 k)/\xs[k]?.getD 0=id/\∀j,j<k->xs[j]?.getD 0≠id)∨(e=.returned (.int .i64 (-1))/\∀j,j<xs.length->xs[j]?.getD 0≠id)
def Z4V (b:Nat):Value:=.func (.func 268) #[] #[.pointer (some ⟨b,0,none⟩)]
theorem Q9A (xs:List Int) (id:Int) (b g cap:Nat) (w:World) (h:w.cell? ⟨b,0,none⟩=some (.int .i64 id)) (hm:xs.length<=4611686018427387904)
  (hc:∀k,k<xs.length->w.cell? ⟨g,k,none⟩=some (.int .i64 (xs[k]?.getD 0))) :
  Calls prog 295 #[.slice (some ⟨g,0,none⟩) xs.length cap,Z4V b] w fun e w'=>Z9O xs id e/\w=w':=by
 unfold Z4V;go_enter func295,ntmps295;go_wp2_with fail
 go_loop [5,8] (fun _ i=>∃k:Nat,k<=xs.length/\i=.int .i64 k/\∀j,j<k->xs[j]?.getD 0≠id) (fun _ i=>xs.length-(intOf i).toNat)
 case atStart=>exact⟨0,J2u _,rfl,by intro j hj;omega⟩
 case round =>
  obtain⟨k,hk,rfl,hpre⟩:=hrel;have Hp:Hid (∀j,j<k->xs[j]?.getD 0≠id):=hpre;clear hpre;by_cases hlt:k<xs.length
  ·have hck:=hc k hlt;have hh:=h;clear hc h;generalize hx:xs[k]?.getD 0=x at hck;have Hx:Hid (xs[k]?.getD 0=x):=hx;clear hx;by_cases hx:x=id
   ·have hb:(x==id)=true:=by simpa using hx
    have Hxi:Hid (x=id):=hx;clear hx;go_wp2_with (go_at_call 268;refine (Q4q _ id b _ hh).mono ?_;rintro e w' ⟨rfl,rfl⟩);go_ret;exact⟨.inl ⟨k,hlt,rfl,Hx.out.trans Hxi.out,Hp.out⟩,rfl⟩
   ·have hb:(x==id)=false:=by simpa using hx
    have Hxi:Hid (x≠id):=hx;clear hx;go_wp2_with (go_at_call 268;refine (Q4q _ id b _ hh).mono ?_;rintro e w' ⟨rfl,rfl⟩)
    go_round
    case rel =>
     refine⟨k+1,by omega,by go_num,fun j hj=>?_⟩;by_cases e:j=k
     ·subst e;rw [Hx.out];exact Hxi.out
     ·exact Hp.out j (by omega)
    case measure=>simp [intOf];omega
  ·clear hc;go_wp2_with fail;go_ret;exact⟨.inr ⟨rfl,fun j hj=>Hp.out j (by omega)⟩,rfl⟩
def fltK (xs:List Int) (id:Int):List Int:=xs.filter fun x=>x != id
theorem Q8u {xs:List Int} {id:Int} (h:∀j,j<xs.length->xs[j]?.getD 0≠id):fltK xs id=xs:=by
 unfold fltK;rw [J4t];intro x hx;obtain⟨j,hj,rfl⟩:=List.getElem_of_mem hx;have:=h j hj
 simpa [hj] using this
theorem Q3z (xs:List Int) (id:Int) (j:Nat) (hj:j<xs.length) :
  fltK (xs.take (j+1)) id=if xs[j]?.getD 0=id then fltK (xs.take j) id else fltK (xs.take j) id++[xs[j]?.getD 0]:=by
 rw [J4B hj];unfold fltK;rw [J2p];by_cases h:xs[j]=id <;> simp [h,hj]
def Z7f (w:World) (g cap:Nat) (ys:List Int) (e:Ending) (w':World):Prop:=
 e=.returned (.slice (some ⟨g,0,none⟩) ys.length cap)/\(∃cs,Cells w' g 3 cs/\cs.length=cap/\cs.take ys.length=ys.map (Value.int .i64))/\w.grownBy w' (some g)
def Z4W (xs:List Int) (id:Int) (g cap:Nat) (w:World) (k0:Nat) (iv jv:Value) (wr:World):Prop:=
 ∃j cs,jv=.int .i64 (j:Nat)/\iv=.int .i64 ((fltK (xs.take j) id).length:Nat)/\k0<j/\j<=xs.length/\(fltK (xs.take j) id).length<j/\Cells wr g 3 cs/\cs.length=cap /\
  cs.take (fltK (xs.take j) id).length=(fltK (xs.take j) id).map (Value.int .i64)/\(∀m,j<=m->m<xs.length->cs[m]?=some (.int .i64 (xs[m]?.getD 0)))/\w.grownBy wr (some g)
theorem Z9P (w:World):(zeroValue 3).run prog w=.ok (.int .i64 0) w:=by kernel_rfl
theorem Q8v (xs:List Int) (id:Int) (b g cap:Nat) (w:World) (cs0:List Value) (h:w.cell? ⟨b,0,none⟩=some (.int .i64 id)) (hne:b≠g) (hc:Cells w g 3 cs0) (hcap:xs.length<=cap) (hcl:cs0.length=cap)
  (htake:cs0.take xs.length=xs.map (Value.int .i64)) (hm:xs.length<=1048576) :
  Calls prog 267 #[.slice (some ⟨g,0,none⟩) xs.length cap,Z4V b] w (Z7f w g cap (fltK xs id)):=by
 have hcell:∀k,k<xs.length->cs0[k]?=some (.int .i64 (xs[k]?.getD 0)):=by
  intro k hk;have h1:(cs0.take xs.length)[k]?=(xs.map (Value.int .i64))[k]?:=by rw [htake]
  rw [J2v,if_pos hk] at h1;rw [h1];simp [hk]
 have hix:=Q9A xs id b g cap w h (by omega) (fun k hk=>hc.cell k _ (hcell k hk));unfold Z4V at hix ⊢;go_enter func267,ntmps267;go_wp2_with fail;refine hix.mono ?_;rintro e w' ⟨⟨k,hk,rfl,hxk,hpre⟩|⟨rfl,hall⟩,rfl⟩
 case inr =>
  have hfl:=Q8u hall
  go_wp2
  go_ret;rw [hfl];exact⟨rfl,⟨cs0,hc,hcl,htake⟩,⟨rfl,rfl,rfl,J0t _,fun _ _ _=>rfl⟩⟩
 case inl =>
  have hft:fltK (xs.take k) id=xs.take k:=Q8u (by
   intro j hj;have hjk:j<k:=by simp at hj;omega
   have:=hpre j hjk
   simpa [J2v,hjk] using this)
  have hft1:fltK (xs.take (k+1)) id=xs.take k:=by rw [Q3z xs id k hk,if_pos hxk,hft]
  have hrel0:Hid (Z4W xs id g cap w k (.int .i64 k) (.int .i64 ((k:Int)+1)) w):=by
   refine⟨k+1,cs0,by go_num,?_,by omega,by omega,?_,hc,hcl,?_,fun m _ hm=>hcell m hm,⟨rfl,rfl,rfl,J0t _,fun _ _ _=>rfl⟩⟩
   ·rw [hft1];simp;omega
   ·rw [hft1];simp;omega
   ·rw [hft1];have h1:=congrArg (List.take k) htake;rw [J2N,<- List.map_take] at h1;have e1:(List.take k xs).length=k:=by simp;omega
    rw [e1,<- h1];congr 1;omega
  have hbad:((k:Int) == -1)=false:=by simp
  clear hcell hix hft hft1 hxk hpre hc htake hcl;go_wp2_with fail
  go_loopw [5,6] (fun iv jv wr=>Z4W xs id g cap w k iv jv wr) (fun _ jv _=>xs.length-(intOf jv).toNat)
  case atStart=>exact hrel0.out
  case round =>
   clear hrel0;obtain⟨j,cs,rfl,rfl,hkj,hj,hij,hc,hcl,hpre,hpost,hg⟩:=hrel;generalize hi:(fltK (List.take j xs) id).length=i at hij hpre;have Hi:Hid ((fltK (List.take j xs) id).length=i):=hi;clear hi;have hb0:wr.cell? ⟨b,0,none⟩=some (.int .i64 id):=hg.cell h (by simpa using hne);have Hpre:Hid (List.take i cs=List.map (Value.int IntKind.i64) (fltK (List.take j xs) id)):=hpre;have Hpost:Hid (∀(m:Nat),j<=m->m<xs.length->cs[m]?=some (Value.int IntKind.i64 (xs[m]?.getD 0))):=hpost;have Hcl:Hid (cs.length=cap):=hcl;clear hpre hpost h hcl;by_cases hlt:j<xs.length
   ·have hcj:=hc.cell j _ (Hpost.out j (J0t _) hlt);have hci:=hc.cell i (cs[i]?.getD undef) (by have:=Hcl.out;rw [J2J (by omega)];rfl);generalize hu:cs[i]?.getD undef=u at hci;clear hu;have hfi:=hc.free i;generalize hx:xs[j]?.getD 0=x at hcj;have Hx:Hid (xs[j]?.getD 0=x):=hx;clear hx;have hcs:Hid (Cells wr g 3 cs):=hc;clear hc;have hfs:=Q3z xs id j hlt;by_cases hx:x=id
    ·have Hf:Hid (fltK (List.take (j+1) xs) id=fltK (List.take j xs) id):=by rw [hfs,if_pos (Hx.out.trans hx)];exact rfl
     have hbx:(x==id)=true:=by simpa using hx
     clear hx hfs;go_wp2_with (go_at_call 268;refine (Q4q _ id b _ hb0).mono ?_;rintro e w' ⟨rfl,rfl⟩);go_roundw
     case rel =>
      refine⟨j+1,cs,by go_num,?_,by omega,by omega,?_,hcs.out,Hcl.out,?_,fun m hm1 hm2=>Hpost.out m (by omega) hm2,hg⟩
      ·rw [Hf.out,Hi.out]
      ·rw [Hf.out,Hi.out];omega
      ·rw [Hf.out,Hi.out];exact Hpre.out
     case measure=>simp [intOf];omega
    ·have Hf:Hid (fltK (List.take (j+1) xs) id=fltK (List.take j xs) id++[x]):=by rw [hfs,if_neg (by rw [Hx.out];exact hx),Hx.out];exact rfl
     have hbx:(x==id)=false:=by simpa using hx
     clear hx hfs;go_wp2_with (go_at_call 268;refine (Q4q _ id b _ hb0).mono ?_;rintro e w' ⟨rfl,rfl⟩);go_roundw
     case rel =>
      refine⟨j+1,cs.set i (.int .i64 x),by go_num,?_,by omega,by omega,?_,hcs.out.set _ _,by simpa using Hcl.out,?_,fun m hm1 hm2=>?_,?_⟩
      ·rw [Hf.out];simp [Hi.out]
      ·rw [Hf.out];simp [Hi.out];omega
      ·rw [Hf.out];have e1:(fltK (List.take j xs) id++[x]).length=i+1:=by simp [Hi.out]
       have hil:i<cs.length:=by have:=Hcl.out;omega
       rw [e1,J4B (by simpa using hil),J1t (J0t _),Hpre.out];simp
      ·rw [J3W (by omega)];exact Hpost.out m (by omega) hm2
      ·exact⟨hg.os,hg.tape,hg.output,by simpa using hg.size,fun q hq hqn=>(Below.heap_setCell _ _ _ _ (fun e=>hqn (by simp [e]))).trans (hg.block q hq hqn)⟩
     case measure=>simp [intOf];omega
   ·obtain rfl:j=xs.length:=by omega
    have hlen1:i<cap:=by omega
    have hci:((cap:Int)==i)=false:=by simp;omega
    have hic:¬(cap=i):=by omega
    have hcs:Hid (Cells wr g 3 cs):=hc;clear hc;go_wp2_with (refine Q3L _ rfl (.tmp 38) 36 3 rfl underlying36 (.int .i64 0) Z9P rfl rfl g i (xs.length-i) (cap-i) rfl (by omega) 3 cs hcs.out (by have:=Hcl.out;omega) ?_;intro w2 hc2 hg2);go_ret;have hxl:List.take xs.length xs=xs:=J2q (J0t _);have Hi':=Hi.out;have Hpre':=Hpre.out;have Hcl':=Hcl.out;rw [hxl] at Hi' Hpre';refine⟨by rw [Hi'];rfl,⟨_,hc2,?_,?_⟩,?_⟩
    ·simp;omega
    ·rw [Hi',J1s,J2M (by simp;omega),J2N,Nat.min_self,Hpre']
    ·exact⟨hg2.os.trans hg.os,hg2.tape.trans hg.tape,hg2.output.trans hg.output,J0u hg.size hg2.size,fun q hq hqn=>(hg2.block q (J0v hq hg.size) hqn).trans (hg.block q hq hqn)⟩
theorem Step.aside {H H':HL} {w w1 w2:World} (st:Step H H' w w1) {F:Nat->Prop} (hc:Chg F w1 w2) (hF:∀b,F b->w.heap.size<=b/\b∉keys H') (hgb:GB<=w.heap.size):Step H H' w w2:=
 ⟨st.sep.chg hc (fun b hb hf=>(hF b hf).2 hb) (fun b hf=>J0u hgb (hF b hf).1),st.chg.trans hc (fun i hi=>.inr (hF i hi).1),st.new⟩
theorem Step.set_aside {H H':HL} {w w1:World} (st:Step H H' w w1) {b:Nat} (hb:w.heap.size<=b) (hk:b∉keys H') (hgb:GB<=w.heap.size) (i:Nat) (v:Value):Step H H' w (w1.setCell ⟨b,i,none⟩ v):=
 st.aside (F:=fun k=>k=b) ((Chg.refl _ _).set _ _ (.inl rfl)) (fun k hk'=>by subst hk';exact⟨hb,hk⟩) hgb
def FO.dropped (q:FO) (e:En Nd):FO:={q with N:=Q0v q.N e 0}
theorem FO.cutRow {w:World} {q:FO} (h:Sep w q.hl) (ok:q.Ok) {e p:En Nd} (he:find q.N e.id=some e) (hp:find q.N e.q.par=some p) {b:Nat} (hb:w.cell? ⟨b,0,none⟩=some (.int .i64 e.id)) (hbk:b∉keys q.hl) (hbl:b<w.heap.size) :
  ∃g cap:Nat,q.kr e.q.par=some (g,cap)/\Calls prog 267 #[.slice (some ⟨g,0,none⟩) p.q.ks.length cap,Z4V b] w fun r w'=>r=.returned (.slice (some ⟨g,0,none⟩) (cutK p.q e.id).ks.length cap) /\
   (w'.cell? ⟨b,0,none⟩=some (.int .i64 e.id))/\w'.frozen? ⟨p.b,3,none⟩=false/\(∃v,w'.cell? ⟨p.b,3,none⟩=some v) /\
   Step q.hl (q.setN e.q.par (cutK p.q e.id) (some (g,cap))).hl w (w'.setCell ⟨p.b,3,none⟩ (.slice (some ⟨g,0,none⟩) (cutK p.q e.id).ks.length cap)):=by
 obtain⟨hem,_⟩:=Q0b he;obtain⟨hpm,hpid⟩:=Q0b hp;have hin:e.id∈p.q.ks:=by
  obtain⟨p',hp',hk⟩:=(ok.n.par e hem).2 (by have:=ok.n.rng p hpm;omega);rw [hp] at hp';cases hp';exact hk
 have hrv:=ok.rv p hpm;rw [hpid] at hrv;obtain⟨R,p1,p2⟩:=FO.split ok.n.ids hp;cases hkr:q.kr e.q.par with
 | none =>
  rw [hkr] at hrv;have:p.q.ks.length=0:=hrv;rw [J2r] at this;rw [this] at hin;cases hin
 | some gc =>
  obtain⟨g,cap⟩:=gc;rw [hkr] at hrv p1;obtain⟨hcap,hmax⟩:p.q.ks.length<=cap/\cap<=maxLen:=hrv;refine⟨g,cap,rfl,?_⟩;have pm:∀(Z:HL) (a:Nat×(Obj->Prop)),((a::Z)++R).Perm (Z++(a::R)):=fun Z a=>J3T.symm
  have h':Sep w (rowH (some (g,cap)) 3 1 (p.q.ks.map encI)++((p.b,isC 287 (p.q.cells (some (g,cap))))::R)):=h.perm (p1.trans (pm _ _));obtain⟨ds,hds,hdl,hdt⟩:=h'.left.row (b:=g) (T:=3) (n:=cap*1) (cs:=p.q.ks.map encI) (by simp [rowH]);rw [J1y] at hdl;rw [J2b] at hdt;have hgk:g∈keys q.hl:=by
   have:g∈keys (rowH (some (g,cap)) 3 1 (p.q.ks.map encI)++((p.b,isC 287 (p.q.cells (some (g,cap))))::R)):=by simp [rowH,keys]
   exact ((p1.trans (pm _ _)).map Prod.fst).mem_iff.2 this
  have hbg:b≠g:=fun x=>hbk (x ▸ hgk)
  have hfew:=ok.n.kids_few hpm;have hfew2:=ok.few;have hflt:fltK p.q.ks e.id=(cutK p.q e.id).ks:=by
   unfold fltK cutK;exact J3i fun x _=>by by_cases hx:x=e.id <;> simp [hx]
  refine (Q8v p.q.ks e.id b g cap w ds hb hbg hds hcap hdl (by rw [hdt]) (by omega)).mono ?_;rintro r w' ⟨hr,⟨cs,hcs,hcl,hct⟩,hg⟩;rw [hflt] at hr hct;have s1:=Sep.turn (A:=[]) (B:=(p.b,isC 287 (p.q.cells (some (g,cap))))::R) (q':=isR 3 (cap*1) ((cutK p.q e.id).ks.map encI)) h' hg ⟨_,hcs,cs.toArray,rfl,by simpa using hcl,by
   rw [J2b]
   simpa using hct⟩
  have hc:=s1.sep.cells (b:=p.b) (T:=287) (cs:=p.q.cells (some (g,cap))) (by simp);have s2:=Sep.set (A:=[(g,isR 3 (cap*1) ((cutK p.q e.id).ks.map encI))]) (B:=R) s1.sep 3 (.slice (some ⟨g,0,none⟩) (cutK p.q e.id).ks.length cap);have hcl3:(p.q.cells (some (g,cap))).set 3 (.slice (some ⟨g,0,none⟩) (cutK p.q e.id).ks.length cap)=(cutK p.q e.id).cells (some (g,cap)):=rfl;rw [hcl3] at s2;refine⟨hr,hg.cell hb (by simpa using hbg),hc.free 3,⟨_,hc.cell 3 _ rfl⟩,(s1.trans s2).perm ((p1.trans (pm _ _)).symm) ?_⟩;exact ((p2 (cutK p.q e.id) (some (g,cap)) rfl rfl).trans (pm _ _)).symm
def Z7g (q:FO) (e:En Nd) (w w':World):Prop:=Step q.hl ((q.dropped e).hl++ndH q.kr e) w w'
theorem Z7h {q:FO} (ok:q.Ok) {e p:En Nd} (hp:find q.N e.q.par=some p) {rv:RV} (hkr:q.kr e.q.par=rv):(q.setN e.q.par (cutK p.q e.id) rv).cut e.id=q.dropped e/\(q.setN e.q.par (cutK p.q e.id) rv).kr=q.kr:=by
 have hk:(fun j=>if j=e.q.par then rv else q.kr j)=q.kr:=by
  funext j;split
  ·rename_i h;rw [h];exact hkr.symm
  ·rfl
 refine⟨?_,hk⟩;unfold FO.cut FO.setN FO.dropped;simp only [hk];rw [Z7d ok.n.ids hp]
theorem Z4X {q:FO} {e:En Nd} (he:find q.N e.id=some e) (hne:e.id≠e.q.par) (n:Nd) (rv:RV):find (q.setN e.q.par n rv).N e.id=some e:=by
 show find (mapE _ q.N) e.id=_;rw [Q1j,he];simp only [J2g,if_neg hne]
def Q0w (w:World) (id:Int):World:=(w.alloc (.cells #[.int .i64 id] 3)).alloc (.cells #[.int .i64 0,.int .i64 0] 46)
theorem Q2u (w:World) (id:Int):Below w.heap.size w (Q0w w id):=((Below.refl _ _).alloc (J0t _) _).alloc (by simp) _
structure Z9b (q q1:FO) (e:En Nd) (w w3:World):Prop where
 c0:w3.cell? ⟨q.f,0,none⟩=some (.map (some q.m))
 c1:w3.cell? ⟨q.f,1,none⟩=some (.map (some q.o))
 b0:w3.cell? ⟨w.heap.size,0,none⟩=some (.int .i64 e.id)
 del:∃w5,(Builtin.delete_ #[279,3] 0 #[.map (some q.m),.int .i64 e.id]).run prog w3.drew=.ok (.tuple #[]) w5/\(w5.cell? ⟨q.f,1,none⟩=some (.map (some q.o))/\w5.cell? ⟨e.b,0,none⟩=some (.int .i64 e.q.sp)/\w5.cell? ⟨e.b,1,none⟩=some (.int .i64 e.q.sl)) /\
  ∃w7,(Builtin.delete_ #[280,46] 0 #[.map (some q.o),.agg #[.int .i64 e.q.sp,.int .i64 e.q.sl]]).run prog w5.drew=.ok (.tuple #[]) w7/\(w7.cell? ⟨e.b,0,none⟩=some (.int .i64 e.q.sp)/\w7.cell? ⟨e.b,1,none⟩=some (.int .i64 e.q.sl))/\Cells w7 (w.heap.size+1) 46 [.int .i64 0,.int .i64 0] /\
   ∀u v,Z7g q e w ((w7.setCell ⟨w.heap.size+1,0,none⟩ u).setCell ⟨w.heap.size+1,1,none⟩ v)
theorem Q8w {w w2 w3:World} {q q1:FO} {e:En Nd} (h:Sep w q.hl) (ok:q.Ok) (hb2:Below (Q0w w e.id).heap.size (Q0w w e.id) w2) (st:Step q.hl q1.hl w w3) (he1:find q1.N e.id=some e) (hids:q1.N.Pairwise (fun a b=>a.id≠b.id)) (hs:q1.N.Pairwise (fun a b=>(a.q.sp,a.q.sl)≠(b.q.sp,b.q.sl))) (hn:∀e∈q1.N,0<=e.q.sp/\e.q.sp<4294967296/\0<=e.q.sl/\e.q.sl<256)
  (e1:q1.cut e.id=q.dropped e) (e2:q1.kr=q.kr) (f1:q1.f=q.f) (f2:q1.m=q.m) (f3:q1.o=q.o) (hb0:w3.cell? ⟨w.heap.size,0,none⟩=some (.int .i64 e.id)) (hres:Cells w3 (w.heap.size+1) 46 [.int .i64 0,.int .i64 0]) (hkeys:∀b∈keys q1.hl,b∈keys q.hl):Z9b q q1 e w w3:=by
 have hgb:GB<=w.heap.size:=h.env.gb;have hsep:=st.sep;obtain⟨w5,r5,s5,hnext⟩:=FO.delSteps hsep.drew hids hs hn he1 3 0 46 0;obtain⟨w7,r7,s7⟩:=hnext w5.drew (Below.refl _ _).drew;rw [f2] at r5;rw [f3] at r7;have nd5:Cells w5 e.b 287 (e.q.cells (q1.kr e.id)):=by
  obtain⟨A,B,hN,_,_⟩:=Q4x hids he1;exact s5.sep.cells (by rw [hN];simp [ndH])
 have nd7:Cells w7 e.b 287 (e.q.cells (q1.kr e.id)):=s7.sep.right.cells (by simp [ndH]);have st7:Step q.hl ((q1.cut e.id).hl++ndH q1.kr e) w w7:=st.trans s7.from_drew;rw [e1,e2] at st7;have c1:=FO.c1 hsep;have hc5:w5.cell? ⟨q1.f,1,none⟩=some (.map (some q1.o)):=(s5.sep.cells (b:=q1.f) (T:=282) (cs:=[.map (some q1.m),.map (some q1.o),.int .i64 q1.next]) (by simp [FO.head])).cell 1 _ rfl;rw [f1,f3] at hc5;have c0':=FO.c0 hsep;rw [f1,f2] at c0';rw [f1,f3] at c1;refine⟨c0',c1,hb0,w5,r5,⟨hc5,nd5.cell 0 _ rfl,nd5.cell 1 _ rfl⟩,w7,r7,⟨nd7.cell 0 _ rfl,nd7.cell 1 _ rfl⟩,hres.same (s7.from_drew.chg.block _ hres.lt fun hk=>by have:=h.lt (hkeys _ hk);omega),fun u v=>?_⟩
 have hnk:w.heap.size+1∉keys ((q.dropped e).hl++ndH q.kr e):=fun hk=>by
  rw [<- e1,<- e2] at hk;have h1:=((FO.cut_perm hids he1).map Prod.fst).mem_iff.2 hk;have h2:w.heap.size+1∈keys q1.hl:=by
   simpa [FO.hl,keys] using h1
  have:=h.lt (hkeys _ h2);omega
 exact (st7.set_aside (Nat.le_succ _) hnk hgb 0 u).set_aside (Nat.le_succ _) hnk hgb 1 v
theorem Z4Y {q:FO} (hids:q.N.Pairwise (fun a b=>a.id≠b.id)) {id:Int} {c:En Nd} (hf:find q.N id=some c) {n:Nd} {g cap:Nat} (hkr:q.kr id=some (g,cap)) (h1:n.sp=c.q.sp) (h2:n.sl=c.q.sl):∀b∈keys (q.setN id n (some (g,cap))).hl,b∈keys q.hl:=fun b hb=>by
 obtain⟨R,p1,p2⟩:=FO.split hids hf;rw [hkr] at p1;have k1:=((p2 n (some (g,cap)) h1 h2).map Prod.fst).mem_iff.1 hb;exact (p1.map Prod.fst).mem_iff.2 (by simpa [rowH] using k1)
theorem Z2d {w:World} {q:FO} (h:Sep w q.hl) (ok:q.Ok) {e p:En Nd} (he:find q.N e.id=some e) (hp:find q.N e.q.par=some p) :
  ∃g cap:Nat,∀w2,Below (Q0w w e.id).heap.size (Q0w w e.id) w2->w2.cell? ⟨e.b,2,none⟩=some (.int .i64 e.q.par) /\
   Calls prog 162 #[.pointer (some ⟨q.f,0,none⟩),.int .i64 e.q.par] w2 (fun r w'=>r=.returned (.pointer (some ⟨p.b,0,none⟩))/\w2=w')/\w2.cell? ⟨p.b,3,none⟩=some (.slice (some ⟨g,0,none⟩) p.q.ks.length cap) /\
   Calls prog 267 #[.slice (some ⟨g,0,none⟩) p.q.ks.length cap,.func (.func 268) #[] #[.pointer (some ⟨w.heap.size,0,none⟩)]] w2 fun r w3=>r=.returned (.slice (some ⟨g,0,none⟩) (cutK p.q e.id).ks.length cap)/\w3.frozen? ⟨p.b,3,none⟩=false/\(∃v,w3.cell? ⟨p.b,3,none⟩=some v) /\
    ∃q1,Z9b q q1 e w (w3.setCell ⟨p.b,3,none⟩ (.slice (some ⟨g,0,none⟩) (cutK p.q e.id).ks.length cap)):=by
 obtain⟨hem,_⟩:=Q0b he;obtain⟨hpm,hpid⟩:=Q0b hp;have hne:e.id≠e.q.par:=by have:=ok.n.rise e hem;omega
 have hB:=Q2u w e.id;have hbi:Cells (Q0w w e.id) w.heap.size 3 [.int .i64 e.id]:=(Cells.new w 3 [.int .i64 e.id]).alloc (.cells #[.int .i64 0,.int .i64 0] 46);have hsz:(Q0w w e.id).heap.size=w.heap.size+2:=by simp [Q0w]
 have facts:∀w2,Below (Q0w w e.id).heap.size (Q0w w e.id) w2->Below w.heap.size w w2/\w2.cell? ⟨w.heap.size,0,none⟩=some (.int .i64 e.id)/\w.heap.size+2<=w2.heap.size:=fun w2 hb=>⟨hB.trans (hb.mono (by omega)),(hbi.same (hb.block _ (by omega))).cell 0 _ rfl,by have:=hb.size;omega⟩
 have hnk:w.heap.size∉keys q.hl:=fun hk=>by have:=h.lt hk;omega
 obtain⟨g,cap,hkr,_⟩:=FO.cutRow (w:=Q0w w e.id) (h.grown hB).sep ok he hp (b:=w.heap.size) (hbi.cell 0 _ rfl) hnk (by omega);refine⟨g,cap,fun w2 hb=>?_⟩;obtain⟨hb',hb0,hlt2⟩:=facts w2 hb;have s2:=(h.grown hb').sep;have c3:=(FO.nd0 s2 hp).2.2.2;rw [hpid,hkr] at c3;refine⟨(FO.nd0 s2 he).2.2.1,Q2s s2 hp,c3,?_⟩;obtain⟨g',cap',hkr',hcall⟩:=FO.cutRow s2 ok he hp hb0 hnk (by omega);rw [hkr] at hkr';cases hkr';refine hcall.mono ?_;rintro r w3 ⟨rfl,hb3,hfr,hcv,st⟩;obtain⟨e1,e2⟩:=Z7h ok (e:=e) hp hkr;refine⟨rfl,hfr,hcv,q.setN e.q.par (cutK p.q e.id) (some (g,cap)),?_⟩;refine Q8w h ok hb ((h.grown hb').trans st) (Z4X he hne _ _) (Q1J (fun _ _ h=>h) ok.n.ids) ?_ ?_ e1 e2 rfl rfl rfl ?_ ?_ (Z4Y ok.n.ids hp hkr rfl rfl)
 ·show (mapE _ q.N).Pairwise _;unfold mapE;refine J0Y.2 (J3Y ?_ ok.n.spots);intro a b ha hb hab;have sp:∀c∈q.N,(if c.id=e.q.par then cutK p.q e.id else c.q).sp=c.q.sp/\(if c.id=e.q.par then cutK p.q e.id else c.q).sl=c.q.sl:=fun c hc=>by
   split
   ·rename_i hcp;rw [Q8t ok.n.ids hc hcp hp];exact⟨rfl,rfl⟩
   ·exact⟨rfl,rfl⟩
  simp only [(sp a ha).1,(sp a ha).2,(sp b hb).1,(sp b hb).2];exact hab
 ·intro d hd;obtain⟨c,hc,rfl⟩:=Q1c (show d∈mapE _ q.N from hd);have:=ok.n.sm c hc;simp only;split
  ·rename_i hcp;rw [Q8t ok.n.ids hc hcp hp] at this;exact this
  ·exact this
 ·have hne:w.heap.size≠p.b:=fun hx=>hnk (by
   have:p.b∈keys q.hl:=by
    obtain⟨A,B,hN,_,_⟩:=Q4x ok.n.ids hp;simp only [FO.hl,keys,J0w,List.map_flatMap];refine J4C _ (J4C _ (J4C _ (J0T.2 ⟨p,hpm,?_⟩)));simp [ndH]
   rw [hx];exact this)
  exact (World.cell?_of_block (Below.heap_setCell _ _ _ _ (by simpa using hne))).trans hb3
 ·have hbr:Cells (Q0w w e.id) (w.heap.size+1) 46 [.int .i64 0,.int .i64 0]:=by
   have:=Cells.new (w.alloc (.cells #[.int .i64 e.id] 3)) 46 [.int .i64 0,.int .i64 0];rw [show (w.alloc (.cells #[.int .i64 e.id] 3)).heap.size=w.heap.size+1 by simp] at this;exact this
  have hbr2:=hbr.same (hb.block _ (by omega));exact hbr2.same (st.chg.block _ hbr2.lt fun hk=>by have:=h.lt hk;omega)
theorem Z4Z {w:World} {q:FO} (h:Sep w q.hl) (ok:q.Ok) {e p:En Nd} (he:find q.N e.id=some e) (hp:find q.N e.q.par=some p) :
  Calls prog 235 #[.pointer (some ⟨q.f,0,none⟩),.int .i64 e.id] w fun r w'=>(∃v,r=.returned v)/\Z7g q e w w':=by
 have hb:=Q2u w e.id;have hbi:=(Cells.new w 3 [.int .i64 e.id]).alloc (.cells #[.int .i64 0,.int .i64 0] 46);have b0:=hbi.cell 0 _ rfl;have hsb:=(h.grown hb).sep;have c0:=FO.c0 hsb;have hl:=FO.look_some hsb he;have c0d:(Q0w w e.id).drew.cell? ⟨q.f,0,none⟩=some (.map (some q.m)):=c0;have b0d:(Q0w w e.id).drew.cell? ⟨w.heap.size,0,none⟩=some (.int .i64 e.id):=b0;have hld:=FO.look_some hsb.drew he;obtain⟨g,cap,hch⟩:=Z2d h ok he hp;obtain⟨k2,kat,k3,kdel⟩:=hch _ (Below.refl _ _).drew;have HDel:=Q0a kdel;unfold Q0w at *
 clear h ok he hp hb hsb hbi hch kdel;go_enter func235,ntmps235;go_wp2_with fail;go_region;go_wp2_with fail;refine kat.mono ?_;rintro r w' ⟨rfl,rfl⟩;go_wp2_with fail;refine HDel.out.mono ?_;rintro r w3 ⟨rfl,hfr,⟨v,hcv⟩,q1,hE⟩;obtain⟨c0e,c1e,b0e,w5,r5,⟨c15,e05,e15⟩,w7,r7,⟨e07,e17⟩,hres,hz⟩:=hE;have HZ:=Q0a hz;generalize (cutK p.q e.id).ks.length=kl at *
 have c0e':(w3.setCell ⟨p.b,3,none⟩ (.slice (some ⟨g,0,none⟩) kl cap)).drew.cell? ⟨q.f,0,none⟩=some (.map (some q.m)):=c0e;have b0e':(w3.setCell ⟨p.b,3,none⟩ (.slice (some ⟨g,0,none⟩) kl cap)).drew.cell? ⟨w.heap.size,0,none⟩=some (.int .i64 e.id):=b0e;have c15':w5.drew.cell? ⟨q.f,1,none⟩=some (.map (some q.o)):=c15;have e05':w5.drew.cell? ⟨e.b,0,none⟩=some (.int .i64 e.q.sp):=e05;have e15':w5.drew.cell? ⟨e.b,1,none⟩=some (.int .i64 e.q.sl):=e15;clear hz HDel kat hl hld c0 c0d b0 b0d k2 k3;go_wp2_with fail;go_region;go_wp2_with fail;go_region;have g0:=hres.cell 0 _ rfl;have g1:=hres.cell 1 _ rfl
 have gf0:=hres.free 0;have gf1:=hres.free 1;have glt:=hres.lt;clear hres;go_wp2_with fail;refine bodyPost_ret (v:=.agg #[.int .i64 e.q.sp,.int .i64 e.q.sl]) (by simp [results,results235,go_sem,g0,g1]) rfl ⟨⟨_,rfl⟩,HZ.out _ _⟩
theorem Z2e {w:World} {q:FO} (h:Sep w q.hl) (ok:q.Ok) {e:En Nd} (he:find q.N e.id=some e) (hp:find q.N e.q.par=none) :
  Calls prog 235 #[.pointer (some ⟨q.f,0,none⟩),.int .i64 e.id] w fun r w'=>(∃v,r=.returned v)/\Z7g q e w w':=by
 have hb:=Q2u w e.id;have hbi:=(Cells.new w 3 [.int .i64 e.id]).alloc (.cells #[.int .i64 0,.int .i64 0] 46);have b0:=hbi.cell 0 _ rfl;have hsb:=(h.grown hb).sep;have c0:=FO.c0 hsb;have hl:=FO.look_some hsb he;have c0d:(Q0w w e.id).drew.cell? ⟨q.f,0,none⟩=some (.map (some q.m)):=c0;have b0d:(Q0w w e.id).drew.cell? ⟨w.heap.size,0,none⟩=some (.int .i64 e.id):=b0;have hld:=FO.look_some hsb.drew he;have kat:=Q4o hsb.drew hp;have k2:=(FO.nd0 hsb.drew he).2.2.1;have hbr:Cells (Q0w w e.id) (w.heap.size+1) 46 [.int .i64 0,.int .i64 0]:=by
  have:=Cells.new (w.alloc (.cells #[.int .i64 e.id] 3)) 46 [.int .i64 0,.int .i64 0];rw [show (w.alloc (.cells #[.int .i64 e.id] 3)).heap.size=w.heap.size+1 by simp] at this;exact this
 have hno:∀c∈q.N,c.id≠e.q.par:=fun c hc hx=>by
  have:=Q0g ok.n.ids hc;rw [hx,hp] at this;cases this
 have e1:q.cut e.id=q.dropped e:=by
  unfold FO.cut FO.dropped;rw [Z4S hno]
 have hE:Z9b q q e w (Q0w w e.id).drew:=Q8w h ok ((Below.refl _ _).drew) ((h.grown hb).drew) he ok.n.ids ok.n.spots (fun c hc=>ok.n.sm c hc) e1 rfl rfl rfl rfl b0d hbr (fun _ h=>h);obtain⟨c0e,c1e,b0e,w5,r5,⟨c15,e05,e15⟩,w7,r7,⟨e07,e17⟩,hres,hz⟩:=hE;have HZ:=Q0a hz;have c0e':(Q0w w e.id).drew.drew.cell? ⟨q.f,0,none⟩=some (.map (some q.m)):=c0e;have b0e':(Q0w w e.id).drew.drew.cell? ⟨w.heap.size,0,none⟩=some (.int .i64 e.id):=b0e;have c15':w5.drew.cell? ⟨q.f,1,none⟩=some (.map (some q.o)):=c15;have e05':w5.drew.cell? ⟨e.b,0,none⟩=some (.int .i64 e.q.sp):=e05;have e15':w5.drew.cell? ⟨e.b,1,none⟩=some (.int .i64 e.q.sl):=e15
 have g0:=hres.cell 0 _ rfl;have g1:=hres.cell 1 _ rfl;have gf0:=hres.free 0;have gf1:=hres.free 1;have glt:=hres.lt;clear h ok he hp hb hsb hbi hbr hno e1 hz hres;unfold Q0w at *
 go_enter func235,ntmps235;go_wp2_with fail;go_region;go_wp2_with fail;refine kat.mono ?_;rintro r w' ⟨rfl,rfl⟩;clear kat hl hld c0 b0 k2;go_wp2_with fail;go_region;go_wp2_with fail;go_region;go_wp2_with fail;refine bodyPost_ret (v:=.agg #[.int .i64 e.q.sp,.int .i64 e.q.sl]) (by simp [results,results235,go_sem,g0,g1]) rfl ⟨⟨_,rfl⟩,HZ.out _ _⟩
theorem Z5a {w:World} {q:FO} (h:Sep w q.hl) (ok:q.Ok) {e:En Nd} (he:find q.N e.id=some e) :
  Calls prog 235 #[.pointer (some ⟨q.f,0,none⟩),.int .i64 e.id] w fun r w'=>(∃v,r=.returned v)/\Z7g q e w w':=by
 cases hp:find q.N e.q.par with
 | none=>exact Z2e h ok he hp
 | some p=>exact Z4Z h ok he hp
def Z9Q (q:FO) (e:En Nd) (w w':World):Prop:=∃F':FO,F'.f=q.f/\F'.N=Q0v q.N e e.q.ks.length/\F'.next=q.next/\F'.Ok/\Step q.hl F'.hl w w'
theorem Z5b {w w':World} {q F:FO} {e:En Nd} (ok:q.Ok) (he:find q.N e.id=some e) (L:Z2c q e e.q.ks.length F) (st:Step q.hl (F.hl++ndH q.kr e) w w'):Z9Q q e w w':=by
 refine⟨F,L.f,L.N,L.next,⟨by rw [L.N,L.next];exact ok.n.lift he,by rw [L.next];exact ok.lim,L.rv,?_⟩,st.drop (J1i _ _)⟩;rw [L.N];unfold Q0v mapE;rw [J2b];exact J0u (Q3B q.N e.id).length_le ok.few
theorem Z2f {q:FO} (ok:q.Ok) (e:En Nd):Z2c q e 0 (q.dropped e):=⟨rfl,rfl,rfl,rfl,rfl,fun c hc=>by
 obtain⟨d,hd,rfl⟩:=Q1c (show c∈mapE _ (rem q.N e.id) from hc);have h0:=ok.rv d (Q7b hd);show rvOk (q.kr d.id) (Q0r e 0 d).ks.length;have hle:(Q0r e 0 d).ks.length<=d.q.ks.length:=by
  unfold Q0r;simp only [J3Q,J2y];split
  ·exact J2H _ _
  ·exact J0t _
 cases hk:q.kr d.id with
 | none =>
  rw [hk] at h0;have h0':d.q.ks.length=0:=h0;show (Q0r e 0 d).ks.length=0;omega
 | some gc =>
  rw [hk] at h0;obtain⟨g,cap⟩:=gc;have h0':d.q.ks.length<=cap/\cap<=maxLen:=h0;exact⟨by omega,h0'.2⟩⟩
theorem Q8x {w:World} {q:FO} (h:Sep w q.hl) (ok:q.Ok) {e:En Nd} (he:find q.N e.id=some e) :
  Calls prog 166 #[.pointer (some ⟨q.f,0,none⟩),.int .i64 e.id] w fun r w'=>(∃v,r=.returned v)/\Z9Q q e w w':=by
 have ka:=Q2s h he;obtain⟨hem,_⟩:=Q0b he;have kd:=Z5a h ok he;have hkl:=ok.n.kids_few hem;have hfew:=ok.few;have HD:=Q0a kd;have HOk:=Q0a ok;have HE:=Q0a he;have hlen:e.q.ks.length<=65536:=by omega
 clear kd h ok he hem;go_enter func166,ntmps166;go_wp2_with fail;refine ka.mono ?_;rintro r w1 ⟨rfl,rfl⟩;go_wp2_with fail;refine HD.out.mono ?_;rintro r w1 ⟨⟨v,rfl⟩,st⟩;have hcells:Cells w1 e.b 287 (e.q.cells (q.kr e.id)):=st.sep.right.cells (by simp [ndH]);have c3:=hcells.cell 3 _ rfl;have HSt:=Q0a st;have HSize:=Q0a (rfl:e.q.ks.length=e.q.ks.length);have hshape:∃(a:Option Addr) (cap:Nat),lvOf (q.kr e.id) e.q.ks.length=.slice a e.q.ks.length cap/\(∀g c,q.kr e.id=some (g,c)->a=some ⟨g,0,none⟩)/\(q.kr e.id=none->e.q.ks.length=0):=by
  have hrv:=HOk.out.rv e (Q0b HE.out).1;cases hkr:q.kr e.id with
  | none =>
   rw [hkr] at hrv;have hrv':e.q.ks.length=0:=hrv;exact⟨none,0,by rw [hrv'];rfl,fun _ _ h=>by (cases h),fun _=>hrv'⟩
  | some gc=>exact⟨some ⟨gc.1,0,none⟩,gc.2,rfl,fun g c h=>by cases h;rfl,fun h=>by cases h⟩
 obtain⟨a0,cap,hsh,hsome,hnone⟩:=hshape;rw [hsh] at c3;have HSome:=Q0a hsome;have HNone:=Q0a hnone;have HLen:=Q0a hlen;clear st ka HD hcells hsh hsome hnone hkl hfew;go_wp2_with fail
 go_loopg [26] e.q.ks.length (fun gk iv wr=>∃(j:Nat) (F:FO),iv=.int .i64 j/\j+gk=e.q.ks.length/\Z2c q e j F/\Step q.hl (F.hl++ndH q.kr e) w wr)
 case atStart=>exact⟨0,q.dropped e,rfl,by omega,Z2f HOk.out e,HSt.out⟩
 case round =>
  obtain⟨j,F,rfl,hjg,hL,st⟩:=hrel;have HL:=Q0a hL;have HJg:=Q0a hjg;have HS:=Q0a st;by_cases hj:j<e.q.ks.length
  ·obtain⟨k,hk⟩:∃k,e.q.ks[j]?=some k:=⟨e.q.ks[j],J2J hj⟩
   have hrow:∃g,a0=some ⟨g,0,none⟩/\wr.cell? ⟨g,j,none⟩=some (.int .i64 k):=by
    cases hkr:q.kr e.id with
    | none=>have:=HNone.out hkr;omega
    | some gc =>
     have hr:=st.sep.right.tail;rw [hkr] at hr;exact⟨gc.1,HSome.out gc.1 gc.2 hkr,Q0U hr j _ (by rw [J2d,hk];rfl)⟩
   obtain⟨g,rfl,hck⟩:=hrow;obtain⟨c,hfc,⟨f0,e2,hfr,v,hcv⟩,hlk,ee2,hrest⟩:=Q6Q HOk.out HE.out hL st.sep hk;obtain⟨c',hfc',⟨f0',e2',hfr',v',hcv'⟩,hlk',ee2',-⟩:=Q6Q HOk.out HE.out hL st.sep.drew hk;rw [hfc] at hfc';obtain rfl:c=c':=J1p hfc';have hff:F.f=q.f:=hL.f;rw [hff] at f0 f0';have hW:=hrest _ (Below.refl _ _).drew;rw [hff] at hW;have ee2d:(wr.setCell ⟨c.b,2,none⟩ (.int .i64 e.q.par)).drew.cell? ⟨e.b,2,none⟩=some (.int .i64 e.q.par):=ee2;by_cases hpar:find q.N e.q.par=none
   ·obtain⟨kat,F',L',st'⟩:=hW.1 hpar;have HL':=Q0a L';have HS':=Q0a (st.trans st');have hji:(j:Int)<(e.q.ks.length:Int):=by omega
    have hj0:(0:Int)<=(j:Int):=by omega
    have hjb:(j:Int)<65536:=by have:=HLen.out;omega
    generalize e.q.ks.length=n at *
    clear hrest hW hfc hfc' L' st' hL st hk hjg hlen HNone;go_wp2_with fail;go_region;go_wp2_with fail;refine kat.mono ?_;rintro r w' ⟨rfl,rfl⟩;go_wp2_with fail;go_roundg (n-(j+1))
    case measure=>have:=HJg.out;omega
    case rel=>exact⟨j+1,F',by go_num,by have:=HJg.out;omega,HL'.out,HS'.out⟩
   ·obtain⟨pb,V,kat,cpb,⟨ua,un,uc,rfl⟩,V',w',rap,⟨va,vn,vc,rfl⟩,cp2,pfr,F',L',st'⟩:=hW.2 hpar;have HL':=Q0a L';have HS':=Q0a (st.trans st');have hji:(j:Int)<(e.q.ks.length:Int):=by omega
    have hj0:(0:Int)<=(j:Int):=by omega
    have hjb:(j:Int)<65536:=by have:=HLen.out;omega
    have cpa:((wr.setCell ⟨c.b,2,none⟩ (.int .i64 e.q.par)).drew.alloc (.cells #[.int .i64 k] 3)).cell? ⟨pb,3,none⟩=some (.slice ua un uc):=(World.cell?_of_block (Below.heap_alloc _ _ _ (World.block_lt_of_cell? _ ⟨pb,3,none⟩ cpb))).trans cpb;have pf3:=pfr 3;generalize e.q.ks.length=n at *
    clear hrest hW hfc hfc' L' st' hL st hk hjg hlen HNone pfr;go_wp2_with fail;go_region;go_wp2_with fail;refine kat.mono ?_;rintro r w' ⟨rfl,rfl⟩;generalize hW0:(wr.setCell ⟨c.b,2,none⟩ (.int .i64 e.q.par)).drew=W0 at *
    clear f0 e2 hfr hcv hlk ee2 f0' e2' hfr' hcv' hlk' ee2' ee2d hck kat hW0;go_wp2_with (at_builtin;refine Lib.wpList_append_run _ rfl _ _ _ _ rfl _ _ rfl rfl _ _ rap ?_);go_roundg (n-(j+1))
    case measure=>have:=HJg.out;omega
    case rel=>exact⟨j+1,F',by go_num,by have:=HJg.out;omega,HL'.out,HS'.out⟩
  ·obtain rfl:j=e.q.ks.length:=by omega
   have HR:=Q0a (Z5b HOk.out HE.out hL st);generalize e.q.ks.length=n at *
   clear hL st hlen;go_wp2_with fail
   first|exact⟨⟨_,rfl⟩,HR.out⟩|(go_ret;exact⟨⟨_,rfl⟩,HR.out⟩)
end Go.Proofs.YtlakjlmaboioiaaGreatDoor
