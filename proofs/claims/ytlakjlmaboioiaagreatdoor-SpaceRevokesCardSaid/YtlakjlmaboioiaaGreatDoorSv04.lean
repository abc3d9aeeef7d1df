/- SpaceRevokes returns true at every input. No condition. Part of its proof. -/
import Derived.Test.YtlakjlmaboioiaaGreatDoorSv03
set_option maxHeartbeats 4000000
set_option maxRecDepth 100000
set_option linter.unusedVariables false
namespace Go.Proofs.YtlakjlmaboioiaaGreatDoor
open Go.RowKit Go.Proofs.Tryz
theorem Q9W {P:Program} (w:World) (t e ty:TypeId) (z:Value) (ht:P.underlying t=some (.slice e)) (hv:∀w,(zeroValue e).run P w=.ok z w) (g o n c:Nat) (hn:0<n) (Ah:Array Value) (T:TypeId) (hg:w.heap[g]?=some (.cells Ah T (0,0)))
  (cs:List Value) (Bu:(Builtin.zeroCells z.cells n).toList=cs) (Am:o+cs.length<=Ah.size) (h1:∀v∈cs,v.oneCell'=true) :
  (Builtin.clear_ #[t] ty #[.slice (some ⟨g,o,none⟩) n c]).run P w=.ok (.tuple #[]) (w.setRow g (Ah.toList.take o++cs++Ah.toList.drop (o+cs.length)).toArray):=by
 have Ao:=run_storeCells_at P g o T cs 0 Ah w hg (by simpa using Am) h1;simp only [J1U] at Ao;obtain⟨m,rfl⟩:∃m,n=m+1:=⟨n-1,by omega⟩
 simp [Builtin.clear_,run_underlying ht,hv,Bu,Ao]
theorem Z4r (Ah xs zs:List Value) (p s:Nat) (hx:Ah.take xs.length=xs) (hp:p+s<=xs.length) (hz:zs.length=s) (hl:xs.length<=Ah.length) :
  let c1:=Ah.take p++xs.drop (p+s)++Ah.drop (p+(xs.drop (p+s)).length)
  let c2:=c1.take (xs.length-s)++zs++c1.drop (xs.length-s+zs.length)
  c1.length=Ah.length/\c2.length=Ah.length/\c2.take (xs.length-s)=xs.take p++xs.drop (p+s):=by
 have e0:(xs.drop (p+s)).length=xs.length-(p+s):=J4e;have e1:(Ah.take p++xs.drop (p+s)++Ah.drop (p+(xs.drop (p+s)).length)).length=Ah.length:=by
  simp only [J2v,J4f,J4e];omega
 refine⟨e1,?_,?_⟩
 ·simp only [J2v,J4f,J4e];omega
 ·have ht:(Ah.take p++xs.drop (p+s)++Ah.drop (p+(xs.drop (p+s)).length)).take (xs.length-s)=xs.take p++xs.drop (p+s):=by
   have e2:(Ah.take p++xs.drop (p+s)).length=xs.length-s:=by simp;omega
   rw [<- e2,J4k];congr 1;rw [<- hx,J4h,show min p xs.length=p by omega]
  show List.take (xs.length-s) _=_;rw [ht,J2M,J4g (by simp;omega),J3K (by simp;omega)]
theorem Q0H {P:Program} {ops:Array Oper} {o:Oper} {a:Act} {w:World} {K:Act->World->Prop} {Q:Exit->Act->World->Prop} {E:Prop}
  (hg:o.guard=none) (d x:Operand) (dT sT:TypeId) (hop:o.op=Op.call {callee:=Callee.builtin Builtin.append,args:=#[d,x],argTypes:=#[dT,sT]})
  (v u:Value) (hd:a.eval d=v) (hx:a.eval x=u) {v':Value} {w':World} (hr:(Builtin.append_ #[dT,sT] o.type #[v,u]).run P w=.ok v' w') (hK:K (a.put o.dst v') w') :
  if Region.wanted o (yielded ops a.tmps)=true then Oper.wp P o a w K Q else E:=by
 have hw:Region.wanted o (yielded ops a.tmps)=true:=by simp [Region.wanted,hg]
 rw [if_pos hw];unfold Oper.wp execOp;simp only [hop,resolve,invoke,builtin,Sem.run_bind,Sem.run_pure,Result.andThen_ok,List.map_toArray,J1O,J4s,hd,hx,hr];exact hK
def DelP (g cap k:Nat) (ys:List Value) (w:World) (r:Ending) (w':World):Prop:=
 r=.returned (.slice (some ⟨g,0,none⟩) k cap)/\w'.ownsRow 0 343 2 (.slice (some ⟨g,0,none⟩) k cap) k ys/\w.grownBy w' (some g)
theorem Z9x {w:World} {g cap k i:Nat} {xs:List Value} {Ah:Array Value} (hg:w.heap[g]?=some (.cells Ah 343 (0,0))) (Bu:Ah.size=cap*2) (AR:Ah.toList.take xs.length=xs) (hx:xs.length=(k+1)*2) (hi:i<=k) (hn:k<=1048576) (hc:k+1<=cap) (Dm:cap<=maxLen)
  (ox:∀v∈xs,v.oneCell'=true) :
  Calls prog 266 #[.slice (some ⟨g,0,none⟩) (k+1) cap,.int .i64 i,.int .i64 ((i:Int)+1)] w (DelP g cap k (xs.take (i*2)++xs.drop (i*2+2)) w):=by
 obtain⟨i0,BI,BN,Bh,LB⟩:=info_parts infopage;have AK:Ah.toList.length=cap*2:=by simpa using Bu
 have A0:∀j v,xs[j]?=some v->w.drew.cell? ⟨g,j,none⟩=some v:=fun j v hj=>by
  have:Ah.toList[j]?=some v:=by
   rw [<- AR] at hj;rw [J3P] at hj;split at hj
   ·exact hj
   ·cases hj
  rw [J4m] at this;show w.cell? _=_;simp [World.cell?,hg,this]
 have DZ:(xs.drop (i*2+2)).length=(k-i)*2:=by rw [J4e,hx];omega
 have IF:=Z4r Ah.toList xs [.pointer none,.int .i64 0] (i*2) 2 AR (by omega) rfl (by omega);obtain⟨e1,e2,e3⟩:=IF;rw [show xs.length-2=k*2 by omega] at e2 e3;obtain⟨c1,Cd⟩:∃c1:List Value,c1=Ah.toList.take (i*2)++xs.drop (i*2+2)++Ah.toList.drop (i*2+(xs.drop (i*2+2)).length):=⟨_,rfl⟩
 rw [<- Cd] at e1 e2 e3;obtain⟨c2,Bo⟩:∃c2:List Value,c2=c1.take (k*2)++[.pointer none,.int .i64 0]++c1.drop (k*2+[Value.pointer none,.int .i64 0].length):=⟨_,rfl⟩
 rw [<- Bo] at e2 e3;obtain⟨a,hA,FA⟩:∃a:Addr,(if cap=i+1 then (some (⟨g,0,none⟩:Addr)) else some ⟨g,(i+1)*2,none⟩)=some a/\∀j u,(xs.drop (i*2+2))[j]?=some u->w.drew.cell? (a.add j)=some u:=by
  by_cases Jc:cap=i+1
  ·refine⟨⟨g,0,none⟩,by simp [Jc],fun j u hj=>?_⟩;have:(xs.drop (i*2+2)).length=0:=by rw [DZ];omega
   rw [J4c this] at hj;simp at hj
  ·refine⟨⟨g,(i+1)*2,none⟩,by simp [Jc],fun j u hj=>?_⟩;rw [Addr.add_lit];exact A0 _ u (by rw [J4o] at hj;rwa [show (i+1)*2+j=i*2+2+j by omega])
 have SR:∀ty,(Builtin.append_ #[339,339] ty #[.slice (some ⟨g,0,none⟩) i cap,.slice (some a) (k-i) (cap-(i+1))]).run prog w.drew=.ok (.slice (some ⟨g,0,none⟩) k cap) (w.drew.setRow g c1.toArray):=fun ty=>by
  have:=run_append_room (P:=prog) w.drew 339 ty 343 i0 underlying339 BI g i cap Ah hg a (k-i) (cap-(i+1)) (xs.drop (i*2+2)) (by rw [Bh];exact DZ) FA (fun v hv=>ox v (J4p hv)) (by omega) (by rw [Bh,DZ,Bu];omega);rw [Bh,show i+(k-i)=k by omega] at this;rw [this,Cd]
 have C5:(w.drew.setRow g c1.toArray).heap[g]?=some (.cells c1.toArray 343 (0,0)):=setRow_heap w.drew g Ah _ _ _ hg;have TH:∀ty,(Builtin.clear_ #[339] ty #[.slice (some ⟨g,k*2,none⟩) 1 (cap-k)]).run prog (w.drew.setRow g c1.toArray)=.ok (.tuple #[]) ((w.drew.setRow g c1.toArray).setRow g c2.toArray):=fun ty=>by
  have:=Q9W (P:=prog) (w.drew.setRow g c1.toArray) 339 343 ty _ underlying339 zeroValue343 g (k*2) 1 (cap-k) (by omega) c1.toArray 343 C5 [.pointer none,.int .i64 0] (by first|kernel_rfl|decide|simp [Builtin.zeroCells,Value.cells]) (by simp only [J4r,J2w,J4l];omega) (by simp [Value.oneCell']);rw [this,Bo]
 have HR:Hid (DelP g cap k (xs.take (i*2)++xs.drop (i*2+2)) w (.returned (.slice (some ⟨g,0,none⟩) k cap)) ((w.drew.setRow g c1.toArray).setRow g c2.toArray)):=by
  have B9:((w.drew.setRow g c1.toArray).setRow g c2.toArray).heap[g]?=some (.cells c2.toArray 343 (0,0)):=setRow_heap _ g c1.toArray _ _ _ C5;refine⟨rfl,⟨by simp only [J2v,J4f,DZ,hx];omega,.inr ⟨g,cap,c2.toArray,rfl,J3O _,B9,by omega,Dm,by simp only [J4r];omega,?_⟩⟩,⟨rfl,rfl,rfl,by simp,fun j _ hj=>?_⟩⟩
  ·first
    | exact e3
    | (have:(xs.take (i*2)++xs.drop (i*2+2)).length=k*2:=(by simp only [J2v,J4f,DZ,hx];omega);rw [this];exact e3)
  ·have AL:j≠g:=fun e=>hj (by rw [e])
   rw [setRow_other _ g j _ AL,setRow_other _ g j _ AL];rfl
 clear A0 hg Bu AR C5 e1 e2 e3 AK ox DZ hx Cd Bo FA BI BN Bh LB;generalize xs.take (i*2)++xs.drop (i*2+2)=ys at *
 generalize c1.toArray=a1 at *
 generalize c2.toArray=a2 at *
 have Pw:cap<=9223372036854775807:=by unfold maxLen at Dm;omega
 have Bf:¬((i:Int)=(i:Int)+1):=by omega
 have Rv:((i:Int)+1).toNat=i+1:=by omega
 have AR:((k:Int)+1).toNat=k+1:=by omega
 have Ax:(0:Int)<=(i:Int)+1:=by omega
 have Af:(0:Int)<=(k:Int)+1:=by omega
 have Ar:(i:Int)<=(i:Int)+1:=by omega
 have Az:(i:Int)+1<=(k:Int)+1:=by omega
 have AD:(k:Int)<=(k:Int)+1:=by omega
 have Di:(k:Int)+1<=(cap:Int):=by omega
 have DH:i<=cap:=by omega
 have DR:¬(cap=k):=by omega
 have mixed:prog.follows .mixedOrders=true:=by kernel_rfl
 go_enter func266,ntmps266;go_wp2_with fail
 go_region_law_o (refine Q0H rfl _ _ 339 339 rfl _ _ (by simp [Act.eval,Act.put]) (by simp [Act.eval,Act.put]) (SR _) ?_)
 go_wp2_with fail;go_ret;exact HR.out
theorem Q6R (pg:List (BM×Nat)) (k:Nat) (x:BM×Nat) (m':BM) (hx:pg[k]?=some x) (hb:m'.b=x.1.b):Q0j (pg.set k (m',x.2))=Q0j pg:=by
 induction pg generalizing k with
 | nil=>rfl
 | cons y r ih =>
  cases k with
  | zero =>
   simp at hx;subst hx;show [ptr m'.b,_]++Q0j r=[ptr y.1.b,_]++Q0j r;rw [hb]
  | succ k =>
   show _++Q0j (r.set k (m',x.2))=_++Q0j r;rw [ih k (by simpa using hx)]
def CA.pageTo (c:CA) (k:Nat) (x:BM×Nat) (m':BM):CA:={c with pg:=c.pg.set k (m',x.2)}
theorem CA.turnB {w w':World} {c:CA} (h:Sep w c.hl) (k:Nat) (x:BM×Nat) (hx:c.pg[k]?=some x) (m':BM) (hb:m'.b=x.1.b) (Ao:Step x.1.hl m'.hl w w'):Step c.hl (c.pageTo k x m').hl w w':=by
 have hk:=(J2c.1 hx).1;have e1:pgH c.pg=(c.pg.take k).flatMap (fun x=>x.1.hl)++x.1.hl++(c.pg.drop (k+1)).flatMap (fun x=>x.1.hl):=Q4m (fun x:BM×Nat=>x.1.hl) _ _ _ hx;have e2:pgH (c.pg.set k (m',x.2))=(c.pg.take k).flatMap (fun x=>x.1.hl)++m'.hl++(c.pg.drop (k+1)).flatMap (fun x=>x.1.hl):=Z9b (fun x:BM×Nat=>x.1.hl) _ _ _ hk;have e3:c.hl=((c.c,isC 341 [ptr c.bb,.int .i64 c.size,lvOf c.rv c.pg.length])::(rowH c.rv 343 2 (Q0j c.pg)++(c.pg.take k).flatMap (fun x=>x.1.hl)))++x.1.hl++(c.pg.drop (k+1)).flatMap (fun x=>x.1.hl):=by
  unfold CA.hl;rw [e1];simp
 have e4:(c.pageTo k x m').hl=((c.c,isC 341 [ptr c.bb,.int .i64 c.size,lvOf c.rv c.pg.length])::(rowH c.rv 343 2 (Q0j c.pg)++(c.pg.take k).flatMap (fun x=>x.1.hl)))++m'.hl++(c.pg.drop (k+1)).flatMap (fun x=>x.1.hl):=by
  unfold CA.hl CA.pageTo;simp only [];rw [e2,Q6R _ _ _ _ hx hb,J3y];simp
 rw [e3,e4];rw [e3] at h;exact Step.frame _ _ h Ao
theorem CA.ok_page {c:CA} (ok:c.Ok) (k:Nat) (x:BM×Nat) (hx:c.pg[k]?=some x) (m':BM) (hl:m'.bits.length=x.1.bits.length):(c.pageTo k x m').Ok:=by
 have hk:=(J2c.1 hx).1;have hm:(c.pg.set k (m',x.2)).map Prod.snd=c.pg.map Prod.snd:=by
  rw [List.map_set];show (c.pg.map Prod.snd).set k x.2=_;have:(c.pg.map Prod.snd)[k]?=some x.2:=by rw [J3x,hx];rfl
  apply J3u
  intro j;rw [J3t];split
  ·rename_i e;subst e;rw [this];simp [hk]
  ·rfl
 have Cj:∀y∈c.pg.set k (m',x.2),y=(m',x.2)∨y∈c.pg:=fun y hy=>by
  rcases J4t hy with h|h
  ·exact .inr h
  ·exact .inl h
 have JS:=J4a hx;refine⟨by simpa [CA.pageTo] using ok.rv,ok.s0,ok.s1,?_,?_,?_,by simpa [CA.pageTo] using ok.len⟩
 ·have h1:(c.pg.map Prod.snd).Pairwise (·<·):=J2q.2 ok.sorted;rw [<- hm] at h1;exact J2q.1 h1
 ·intro y hy;rcases Cj y hy with rfl|h
  ·exact ok.lt x JS
  ·exact ok.lt y h
 ·intro y hy;rcases Cj y hy with rfl|h
  ·exact hl.trans (ok.many x JS)
  ·exact ok.many y h
def Z9y (c:CA) (k i:Nat) (x:BM×Nat) (w:World) (r:Ending) (w':World):Prop:=r=.returned (.int .i64 0)/\Step c.hl (c.pageTo k x {x.1 with bits:=x.1.bits.set i false}).hl w w'
theorem Z4s {w:World} {c:CA} (h:Sep w c.hl) (ok:c.Ok) (a:Nat) (ha:a<4611686018427387904) (k i:Nat) (x:BM×Nat) (hs:Q5v c a=some (k,i)) (hx:c.pg[k]?=some x) (hi:x.1.bits[i]?.getD false=true) (BB:cntB (x.1.bits.set i false)≠0) :
  Calls prog 232 #[.pointer (some ⟨c.c,0,none⟩),.int .i64 a] w (Z9y c k i x w):=by
 have k1:=Q7I h ok a ha;rw [hs] at k1;have hk:=(J2c.1 hx).1;have CG:i<x.1.bits.length:=by
  rcases J4u i x.1.bits.length with e|e
  ·exact e
  ·rw [J3B e] at hi;cases hi
 have Ke:=ok.many x (J4a hx);have Gv:x.1.bits.length<=1048576:=by rw [Ke];have:=J3s 960 c.size;omega
 have CC:=ok.len;obtain⟨rb,cap,AO⟩:∃rb cap,c.rv=some (rb,cap):=by
  cases e:c.rv with
  | none=>have:=ok.rv;rw [e] at this;have:c.pg.length=0:=this;omega
  | some p=>exact⟨p.1,p.2,rfl⟩
 have Eq:Hid (∀w1,Below w.heap.size w w1->w1.cell? ⟨c.c,2,none⟩=some (.slice (some ⟨rb,0,none⟩) c.pg.length cap)/\w1.cell? ⟨rb,k*2,none⟩=some (.pointer (some ⟨x.1.b,0,none⟩))/\w1.cell? ⟨rb,k*2+1,none⟩=some (.int .i64 ((1024*x.2:Nat):Int)) /\
   Calls prog 223 #[.pointer (some ⟨x.1.b,0,none⟩),.bool false,.slice (some ⟨w1.heap.size+1,0,none⟩) 1 1] ((w1.alloc (.cells #[.pointer (some ⟨x.1.b,0,none⟩),.int .i64 ((1024*x.2:Nat):Int)] 343)).alloc (.cells #[.int .i64 i] 3)) fun r w4=>r=.returned (.int .i64 1) /\
    w4.cell? ⟨w1.heap.size,0,none⟩=some (.pointer (some ⟨x.1.b,0,none⟩)) /\
    Calls prog 265 #[.pointer (some ⟨x.1.b,0,none⟩)] w4 (fun r w5=>r=.returned (.int .i64 (cntB (x.1.bits.set i false)))/\w4=w5)/\Z9y c k i x w (.returned (.int .i64 0)) w4):=fun w1 hb=>by
  have s1:=(h.grown hb).sep;have BZ:=CA.sepR s1;rw [AO] at BZ;obtain⟨e1,e2⟩:=Q1S _ _ _ hx;have Bo:=(CA.sepC s1).cell 2 _ rfl;rw [AO] at Bo;refine⟨Bo,Q0Y BZ _ _ e1,Q0Y BZ _ _ e2,?_⟩;have s3:=(s1.alloc (.cells #[.pointer (some ⟨x.1.b,0,none⟩),.int .i64 ((1024*x.2:Nat):Int)] 343)).alloc (.cells #[.int .i64 i] 3);have sb:=CA.sepB s3 k x hx;have Ab:∀b∈keys x.1.hl,b<w1.heap.size:=fun b AC=>(CA.sepB s1 k x hx).lt AC
  have hz:((w1.alloc (.cells #[.pointer (some ⟨x.1.b,0,none⟩),.int .i64 ((1024*x.2:Nat):Int)] 343))).heap.size=w1.heap.size+1:=by simp
  have AQ:=Q2A sb false i CG Gv (by rw [hi];simp) (w1.heap.size+1) (by
   have:=(Cells.new (w1.alloc (.cells #[.pointer (some ⟨x.1.b,0,none⟩),.int .i64 ((1024*x.2:Nat):Int)] 343)) 3 [.int .i64 i]).cell 0 _ rfl;rw [hz] at this;exact this) (fun hm=>by have:=Ab _ hm;omega)
  refine AQ.mono ?_;rintro r w4 ⟨rfl,Ao⟩;have Be:=CA.turnB s3 k x hx {x.1 with bits:=x.1.bits.set i false} rfl Ao;refine⟨rfl,?_,Q5Q Ao.sep (by simpa using Gv),rfl,(h.grown hb).trans Be.from_alloc.from_alloc⟩;have hn:w1.heap.size∉keys x.1.hl:=fun hm=>by have:=Ab _ hm;omega
  have AC:=Ao.chg.block w1.heap.size (by simp;omega) hn;have Nn:=((Cells.new w1 343 [.pointer (some ⟨x.1.b,0,none⟩),.int .i64 ((1024*x.2:Nat):Int)]).alloc (.cells #[.int .i64 i] 3)).cell 0 _ rfl;have:w4.cell? ⟨w1.heap.size,0,none⟩=((w1.alloc (.cells #[.pointer (some ⟨x.1.b,0,none⟩),.int .i64 ((1024*x.2:Nat):Int)] 343)).alloc (.cells #[.int .i64 i] 3)).cell? ⟨w1.heap.size,0,none⟩:=by simp only [World.cell?,AC]
  rw [this];exact Nn
 have HQ:Hid (∀r w',Told w (Q4W (some (k,i))) r w'->r=.returned (.tuple #[.int .i64 k,.int .i64 i,.bool true])/\Below w.heap.size w w'):=fun r w' ⟨e,hb⟩=>⟨e,hb⟩
 have Bx:(0:Int)<=k:=by omega
 have CZ:(k:Int)<c.pg.length:=by omega
 have BI:(0:Int)<=i:=by omega
 have J4:(i:Int)<1048576:=by omega
 have KH:((cntB (x.1.bits.set i false):Int)==0)=false:=by simpa using BB
 clear h ok hs hx hi CG Ke Gv AO BB;generalize cntB (x.1.bits.set i false)=cnt at *
 generalize c.pg.length=np at *
 generalize 1024*x.2=pv at *
 obtain⟨GL,LA⟩:∃GL:Ending->World->Prop,GL=Z9y c k i x w:=⟨_,rfl⟩
 rw [<- LA] at Eq ⊢;clear LA;generalize x.1.b=b at *
 generalize c.c=cc at *
 go_enter func232,ntmps232;go_wp2_with fail;refine k1.mono ?_;rintro r w1 hf;obtain⟨rfl,hb⟩:=HQ.out _ _ hf;obtain⟨c1,c2,c3,AQ⟩:=Eq.out _ hb;have C8:=Q0a AQ;clear AQ hf hb;go_wp2_with fail;refine C8.out.mono ?_;rintro r w4 ⟨rfl,d1,d2,d3⟩;have HG:=Q0a d3;have HC:=Q0a d2;clear d2 d3;go_wp2_with fail;refine HC.out.mono ?_;rintro r w5 ⟨rfl,rfl⟩;go_wp2_with fail;exact HG.out
theorem Q8r (pg:List (BM×Nat)) (k:Nat) (hk:k<pg.length):Q0j (pg.eraseIdx k)=(Q0j pg).take (k*2)++(Q0j pg).drop (k*2+2):=by
 induction pg generalizing k with
 | nil=>simp at hk
 | cons y r ih =>
  cases k with
  | zero=>rfl
  | succ k =>
   have e:=ih k (by simpa using hk);show _::_::Q0j (r.eraseIdx k)=_;rw [e,show (k+1)*2=k*2+1+1 by omega,show k*2+1+1+2=k*2+2+1+1 by omega];rfl
theorem Z4t (pg:List (BM×Nat)) (k:Nat):(pgH (pg.eraseIdx k)).Sublist (pgH pg):=by
 induction pg generalizing k with
 | nil=>simp [pgH]
 | cons y r ih =>
  cases k with
  | zero=>exact J2C _ _
  | succ k=>exact J3Q (J3R _) (ih k)
def CA.dropPg (c:CA) (k:Nat):CA:={c with pg:=c.pg.eraseIdx k}
theorem CA.ok_drop {c:CA} (ok:c.Ok) (k:Nat) (hk:k<c.pg.length):(c.dropPg k).Ok:=by
 have BH:(c.pg.eraseIdx k).Sublist c.pg:=J4v _ _;have Ac:(c.pg.eraseIdx k).length=c.pg.length-1:=by rw [List.length_eraseIdx,if_pos hk]
 refine⟨?_,ok.s0,ok.s1,ok.sorted.sublist BH,fun x hx=>ok.lt x (BH.subset hx),fun x hx=>ok.many x (BH.subset hx),by have:=ok.len;show (c.pg.eraseIdx k).length<=_;omega⟩;show rvOk c.rv (c.pg.eraseIdx k).length;have:=ok.rv;cases AO:c.rv with
 | none=>rw [AO] at this;have:c.pg.length=0:=this;omega
 | some p=>rw [AO] at this;exact⟨by have:=this.1;omega,this.2⟩
theorem CA.dropStep {w w1:World} {c:CA} {g cap:Nat} (h:Sep w c.hl) (AO:c.rv=some (g,cap)) (k n:Nat) (hk:k<c.pg.length) (hn:c.pg.length=n+1) (hd:DelP g cap n ((Q0j c.pg).take (k*2)++(Q0j c.pg).drop (k*2+2)) w (.returned (.slice (some ⟨g,0,none⟩) n cap)) w1) :
  Step c.hl (c.dropPg k).hl w (w1.setCell ⟨c.c,2,none⟩ (.slice (some ⟨g,0,none⟩) n cap)):=by
 obtain⟨_,q1,q2⟩:=hd;have Ac:(c.pg.eraseIdx k).length=n:=by rw [List.length_eraseIdx,if_pos hk];omega
 have e0:c.hl=[(c.c,isC 341 [ptr c.bb,.int .i64 c.size,lvOf c.rv c.pg.length])]++rowH c.rv 343 2 (Q0j c.pg)++pgH c.pg:=by unfold CA.hl;simp
 rw [e0] at h;have hb:(Value.slice (some ⟨g,0,none⟩) n cap).ownBlock=(lvOf c.rv c.pg.length).ownBlock∨(Value.slice (some ⟨g,0,none⟩) n cap).ownBlock=some w.heap.size:=.inl (by rw [AO];rfl);have hg:w.grownBy w1 (lvOf c.rv c.pg.length).ownBlock:=by rw [AO];exact q2
 obtain⟨rv',f1,f2,f3⟩:=Q2l h q1 hg hb;have Cw:rv'=c.rv:=by
  cases rv' with
  | none=>cases f1
  | some p =>
   obtain⟨g',BA⟩:=p;unfold lvOf at f1;cases f1;exact AO.symm
 subst Cw;have s2:Step _ _ w1 _:=Sep.set (A:=[]) (b:=c.c) (T:=341) (cs:=[ptr c.bb,.int .i64 c.size,lvOf c.rv c.pg.length]) (B:=rowH c.rv 343 2 ((Q0j c.pg).take (k*2)++(Q0j c.pg).drop (k*2+2))++pgH c.pg) (by simpa using f3.sep) 2 (.slice (some ⟨g,0,none⟩) n cap);have f3':Step c.hl ([]++(c.c,isC 341 [ptr c.bb,.int .i64 c.size,lvOf c.rv c.pg.length])::(rowH c.rv 343 2 ((Q0j c.pg).take (k*2)++(Q0j c.pg).drop (k*2+2))++pgH c.pg)) w w1:=by
  rw [e0];simpa using f3
 refine (f3'.trans s2).drop ?_;unfold CA.hl CA.dropPg;simp only [J3W,J4w,J4x];rw [Q8r _ _ hk,Ac,AO];exact List.Sublist.cons_cons _ (J3Q (J3R _) (Z4t _ _))
def Q2Y (pg:List (BM×Nat)) (y:BM×Nat):List (BM×Nat):=pg.take (Q0r pg y.2)++y::pg.drop (Q0r pg y.2)
theorem Q7J (a b:List (BM×Nat)):Q0j (a++b)=Q0j a++Q0j b:=by simp [Q0j]
theorem Q9X (pg:List (BM×Nat)) (j:Nat):Q0j (pg.take j)=(Q0j pg).take (j*2):=by
 induction pg generalizing j with
 | nil=>simp [Q0j]
 | cons y r ih =>
  cases j with
  | zero=>simp [Q0j]
  | succ j =>
   show _::_::Q0j (r.take j)=_;rw [ih,show (j+1)*2=j*2+1+1 by omega];rfl
theorem Q9Y (pg:List (BM×Nat)) (j:Nat):Q0j (pg.drop j)=(Q0j pg).drop (j*2):=by
 induction pg generalizing j with
 | nil=>simp [Q0j]
 | cons y r ih =>
  cases j with
  | zero=>simp
  | succ j =>
   show Q0j (r.drop j)=_;rw [ih,show (j+1)*2=j*2+1+1 by omega];rfl
theorem Z2o (pg:List (BM×Nat)) (y:BM×Nat):Q0j (Q2Y pg y)=(Q0j pg).take (Q0r pg y.2*2)++[ptr y.1.b,.int .i64 ((1024*y.2:Nat):Int)]++(Q0j pg).drop (Q0r pg y.2*2):=by
 unfold Q2Y;rw [Q7J,Q9X];show _++([ptr y.1.b,.int .i64 ((1024*y.2:Nat):Int)]++Q0j (pg.drop _))=_;rw [Q9Y,J2M]
theorem Z9z (pg:List (BM×Nat)) (y:BM×Nat):(y.1.hl++pgH pg).Perm (pgH (Q2Y pg y)):=by
 unfold Q2Y pgH;rw [J2t,J2i];have e:pg.flatMap (fun x=>x.1.hl)=(pg.take (Q0r pg y.2)).flatMap (fun x=>x.1.hl)++(pg.drop (Q0r pg y.2)).flatMap (fun x=>x.1.hl):=by
  rw [<- J2t,J2L]
 rw [e,<- J2M,<- J2M];exact J4y _ J4z
theorem insPg_len (pg:List (BM×Nat)) (y:BM×Nat):(Q2Y pg y).length=pg.length+1:=by
 unfold Q2Y;simp only [J2v,J2w,J4f,J4e];omega
theorem mem_insPg {pg:List (BM×Nat)} {y z:BM×Nat}:z∈Q2Y pg y↔z=y∨z∈pg:=by
 unfold Q2Y;have:z∈pg↔z∈pg.take (Q0r pg y.2)∨z∈pg.drop (Q0r pg y.2):=by rw [<- J2A,J2L]
 rw [this];simp only [J2A,J1Q]
 constructor
 ·rintro (h|h|h)
  ·exact .inr (.inl h)
  ·exact .inl h
  ·exact .inr (.inr h)
 ·rintro (h|h|h)
  ·exact .inr (.inl h)
  ·exact .inl h
  ·exact .inr (.inr h)
theorem Q6S {pg:List (BM×Nat)} (hs:pg.Pairwise (fun a b=>a.2<b.2)) (y:BM×Nat) (hn:∀x∈pg,x.2≠y.2):(Q2Y pg y).Pairwise (fun a b=>a.2<b.2):=by
 have Ry:∀x∈pg.take (Q0r pg y.2),x.2<y.2:=fun x hx=>by
  obtain⟨k,hk⟩:=J4A.1 hx;rw [J3P] at hk;split at hk
  ·rename_i Ab;exact (Q4o hs y.2 k x hk).1 Ab
  ·cases hk
 have O2:∀x∈pg.drop (Q0r pg y.2),y.2<x.2:=fun x hx=>by
  obtain⟨k,hk⟩:=J4A.1 hx;rw [J4o] at hk;have h1:=Q4o hs y.2 _ x hk;have h2:=hn x (J4a hk);have h3:¬x.2<y.2:=fun e=>by have:=h1.2 e;omega
  omega
 unfold Q2Y;rw [J2z];refine⟨hs.sublist (List.take_sublist _ _),J2m.2 ⟨fun x hx=>O2 x hx,hs.sublist (List.drop_sublist _ _)⟩,fun a ha b hb=>?_⟩;rcases J1Q.1 hb with rfl|hb
 ·exact Ry a ha
 ·exact Nat.lt_trans (Ry a ha) (O2 b hb)
def CA.insert (c:CA) (rv':RV) (y:BM×Nat):CA:={c with rv:=rv',pg:=Q2Y c.pg y}
theorem CA.ok_ins {c:CA} (ok:c.Ok) (rv':RV) (y:BM×Nat) (hn:∀x∈c.pg,x.2≠y.2) (hr:rvOk rv' (c.pg.length+1)) (hl:c.pg.length<1048576) (hy:y.2<1048576) (hb:y.1.bits.length=960/c.size):(c.insert rv' y).Ok:=by
 refine⟨?_,ok.s0,ok.s1,Q6S ok.sorted y hn,fun x hx=>?_,fun x hx=>?_,?_⟩
 ·show rvOk rv' (Q2Y c.pg y).length;rw [insPg_len];exact hr
 ·rcases mem_insPg.1 hx with rfl|h
  ·exact hy
  ·exact ok.lt x h
 ·rcases mem_insPg.1 hx with rfl|h
  ·exact hb
  ·exact ok.many x h
 ·show (Q2Y c.pg y).length<=_;rw [insPg_len];omega
theorem CA.insStep {w w1:World} {c:CA} {K:HL} (y:BM×Nat) (rv':RV) (h:Sep w (c.hl++(y.1.hl++K))) (Ao:Step ([(c.c,isC 341 [ptr c.bb,.int .i64 c.size,lvOf c.rv c.pg.length])]++rowH c.rv 343 2 (Q0j c.pg)++(pgH c.pg++(y.1.hl++K)))
   ([(c.c,isC 341 [ptr c.bb,.int .i64 c.size,lvOf c.rv c.pg.length])]++rowH rv' 343 2 ((Q0j c.pg).take (Q0r c.pg y.2*2)++[ptr y.1.b,.int .i64 ((1024*y.2:Nat):Int)]++(Q0j c.pg).drop (Q0r c.pg y.2*2))++(pgH c.pg++(y.1.hl++K))) w w1) :
  Step (c.hl++(y.1.hl++K)) ((c.insert rv' y).hl++K) w (w1.setCell ⟨c.c,2,none⟩ (lvOf rv' (c.pg.length+1))):=by
 rw [<- Z2o] at Ao;have s2:Step _ _ w1 _:=Sep.set (A:=[]) (b:=c.c) (T:=341) (cs:=[ptr c.bb,.int .i64 c.size,lvOf c.rv c.pg.length]) (B:=rowH rv' 343 2 (Q0j (Q2Y c.pg y))++(pgH c.pg++(y.1.hl++K))) (by simpa using Ao.sep) 2 (lvOf rv' (c.pg.length+1));have h3:=Step.trans (H1:=[]++(c.c,isC 341 [ptr c.bb,.int .i64 c.size,lvOf c.rv c.pg.length])::(rowH rv' 343 2 (Q0j (Q2Y c.pg y))++(pgH c.pg++(y.1.hl++K)))) (by simpa using Ao) s2;refine h3.perm (.of_eq (by unfold CA.hl;simp)) ?_;unfold CA.hl CA.insert;simp only [J3W,J4w,J4x,insPg_len,J3X];refine List.Perm.cons _ ?_;rw [J2M];refine J4B _ ?_;rw [<- J2M]
 refine J4y _ ?_;exact J4z.trans (Z9z c.pg y)
def Q3c (bits:List Bool):List Nat:=(List.range bits.length).filter fun i=>bits[i]?.getD false
theorem mem_trues {bits:List Bool} {i:Nat}:i∈Q3c bits↔bits[i]?.getD false=true:=by
 unfold Q3c;rw [J2f,J2b]
 constructor
 ·exact fun h=>h.2
 ·intro h;refine⟨?_,h⟩;rcases J4u i bits.length with e|e
  ·exact e
  ·rw [J3B e] at h;cases h
theorem Q5p (bits:List Bool):(Q3c bits).Pairwise (·<·):=J2e.filter _
theorem Q6T (f:Nat->Bool):∀n,((List.range n).filter f).length=cnt f n
 | 0=>rfl
 | n+1=>by
  rw [J1W,J3J,J2v,Q6T f n];show _=cnt f n+(f n).toNat;cases h:f n <;> simp [h]
theorem Q5S (bits:List Bool):(Q3c bits).length=cntB bits:=by
 unfold Q3c;rw [Q6T,Z1e bits _ (J1L _)]
def Q1p (size:Nat) (x:BM×Nat):List Nat:=(Q3c x.1.bits).map (addr size x.2)
def CA.used (c:CA):List Nat:=c.pg.flatMap (Q1p c.size)
theorem mem_used {c:CA} {a:Nat}:a∈c.used↔∃x∈c.pg,∃i,x.1.bits[i]?.getD false=true/\a=addr c.size x.2 i:=by
 unfold CA.used Q1p;rw [J2l]
 constructor
 ·rintro⟨x,hx,ha⟩;obtain⟨i,hi,rfl⟩:=J1R.1 ha;exact⟨x,hx,i,mem_trues.1 hi,rfl⟩
 ·rintro⟨x,hx,i,hi,rfl⟩;exact⟨x,hx,J1R.2 ⟨i,mem_trues.2 hi,rfl⟩⟩
theorem Q5T {bits:List Bool} {i:Nat} (hi:i<bits.length) (h:bits[i]?.getD false=false):∃A B,Q3c bits=A++B/\Q3c (bits.set i true)=A++i::B:=by
 have e:List.range bits.length=List.range i++i::(List.range (bits.length-(i+1))).map (·+(i+1)):=by
  obtain⟨d,hd⟩:∃d,bits.length=i+(1+d):=⟨bits.length-(i+1),by omega⟩
  rw [hd,show i+(1+d)-(i+1)=d by omega,List.range_add,List.range_add];simp [Function.comp_def,Nat.add_comm,Nat.add_left_comm]
 unfold Q3c;rw [J3y,e,J3J,J3J];refine⟨_,_,rfl,?_⟩;congr 1
 ·apply J4C
  intro j hj;rw [J2b] at hj;rw [Q1G _ _ hi,if_neg (by omega)]
 ·rw [J3Y (by rw [Q1G _ _ hi];simp),J3Z (by rw [h];simp)];congr 1
  apply J4C
  intro j hj;obtain⟨t,_,rfl⟩:=J1R.1 hj;rw [Q1G _ _ hi,if_neg (by omega)]
theorem Q8s {bits:List Bool} {i:Nat} (h:bits[i]?.getD false=true):∃A B,Q3c bits=A++i::B/\Q3c (bits.set i false)=A++B:=by
 have hi:i<bits.length:=by
  rcases J4u i bits.length with e|e
  ·exact e
  ·rw [J3B e] at h;cases h
 obtain⟨A,B,e1,e2⟩:=Q5T (bits:=bits.set i false) (i:=i) (by simpa using hi) (by simp [hi]);rw [J4D,show bits.set i true=bits from ?_] at e2
 ·exact⟨A,B,e2,e1⟩
 ·apply J3u
  intro j;rw [J3t];split
  ·rename_i e;subst e;rw [J4d hi] at h ⊢;simp only [J4E] at h;simp [h]
  ·rfl
theorem Q5q {α β:Type} (f:α->List β) (L:List α) (k:Nat):L.flatMap f=(L.take k).flatMap f++(L.drop k).flatMap f:=by
 rw [<- J2t,J2L]
theorem Z2p {α β:Type} (f:α->List β) (L:List α) (k:Nat) (x:α) (h:L[k]?=some x):L.flatMap f=(L.take k).flatMap f++(f x++(L.drop (k+1)).flatMap f):=by
 rw [Q5q f L k];have hk:=J2c.1 h;rw [J4F hk.1,J2i,hk.2]
theorem Z4u {α β:Type} (f:α->List β) (L:List α) (k:Nat) (y:α) (hk:k<L.length):(L.set k y).flatMap f=(L.take k).flatMap f++(f y++(L.drop (k+1)).flatMap f):=by
 rw [Z2p f (L.set k y) k y (by simp [hk]),J2N (J1L k),J2O (by omega)]
theorem Z7n {α β:Type} (f:α->List β) (L:List α) (k:Nat):(L.eraseIdx k).flatMap f=(L.take k).flatMap f++(L.drop (k+1)).flatMap f:=by
 rw [J4G,J2t]
theorem Z7o {c:CA} {k i:Nat} {x:BM×Nat} (hx:c.pg[k]?=some x) (hi:i<x.1.bits.length) (h:x.1.bits[i]?.getD false=false) :
  ∃A B,c.used=A++B/\(c.pageTo k x {x.1 with bits:=x.1.bits.set i true}).used=A++addr c.size x.2 i::B:=by
 obtain⟨A,B,e1,e2⟩:=Q5T hi h;have hk:=(J2c.1 hx).1;refine⟨(c.pg.take k).flatMap (Q1p c.size)++A.map (addr c.size x.2),B.map (addr c.size x.2)++(c.pg.drop (k+1)).flatMap (Q1p c.size),?_,?_⟩
 ·unfold CA.used;rw [Z2p _ _ _ _ hx];simp [Q1p,e1]
 ·unfold CA.used CA.pageTo;rw [Z4u _ _ _ _ hk];simp [Q1p,e2]
theorem Z7p {c:CA} {k i:Nat} {x:BM×Nat} (hx:c.pg[k]?=some x) (h:x.1.bits[i]?.getD false=true) :
  ∃A B,c.used=A++addr c.size x.2 i::B/\(c.pageTo k x {x.1 with bits:=x.1.bits.set i false}).used=A++B:=by
 obtain⟨A,B,e1,e2⟩:=Q8s h;have hk:=(J2c.1 hx).1;refine⟨(c.pg.take k).flatMap (Q1p c.size)++A.map (addr c.size x.2),B.map (addr c.size x.2)++(c.pg.drop (k+1)).flatMap (Q1p c.size),?_,?_⟩
 ·unfold CA.used;rw [Z2p _ _ _ _ hx];simp [Q1p,e1]
 ·unfold CA.used CA.pageTo;rw [Z4u _ _ _ _ hk];simp [Q1p,e2]
theorem Z4v (n:Nat) (h:0<n):Q3c ((List.replicate n false).set 0 true)=[0]:=by
 obtain⟨A,B,e1,e2⟩:=Q5T (bits:=List.replicate n false) (i:=0) (by simpa using h) (by simp [List.getElem?_replicate];split <;> rfl);have e0:Q3c (List.replicate n false)=[]:=by
  unfold Q3c;rw [J3M];intro j _;rw [J3N];split <;> simp
 rw [e0] at e1;obtain⟨rfl,rfl⟩:=J4H.1 e1.symm;exact e2
theorem Z7q {c:CA} (rv':RV) (m:BM) (p n:Nat) (hn:0<n) (hm:m.bits=(List.replicate n false).set 0 true):∃A B,c.used=A++B/\(c.insert rv' (m,p)).used=A++addr c.size p 0::B:=by
 refine⟨_,_,Q5q (Q1p c.size) c.pg (Q0r c.pg p),?_⟩;unfold CA.used CA.insert Q2Y;rw [J2t,J2i];congr 1;simp only [Q1p];rw [hm,Z4v n hn];rfl
theorem Z4w {c:CA} {k i:Nat} {x:BM×Nat} (hx:c.pg[k]?=some x) (h:x.1.bits[i]?.getD false=true) (h0:cntB (x.1.bits.set i false)=0) :
  ∃A B,c.used=A++addr c.size x.2 i::B/\(c.dropPg k).used=A++B:=by
 obtain⟨A,B,e1,e2⟩:=Q8s h;have e3:=Q5S (x.1.bits.set i false);rw [h0,e2] at e3;have e4:A++B=[]:=J4c e3;obtain⟨rfl,rfl⟩:=J4H.1 e4;refine⟨(c.pg.take k).flatMap (Q1p c.size),(c.pg.drop (k+1)).flatMap (Q1p c.size),?_,?_⟩
 ·unfold CA.used;rw [Z2p _ _ _ _ hx];simp [Q1p,e1]
 ·unfold CA.used CA.dropPg;rw [Z7n]
theorem Q4p {s i n:Nat} (hs:0<s) (hi:i<n) (hn:n=960/s):i*s+s<=960:=by
 subst hn;have:(i+1)*s<=960/s*s:=J4I s hi;have h2:=Nat.div_mul_le_self 960 s;rw [J4J,Nat.one_mul] at this;omega
theorem Z2q {s p i:Nat} (hs:0<s) (h:i*s+s<=960):addr s p i/1024=p/\addr s p i%1024=64+i*s/\(addr s p i%1024-64)%s=0/\(addr s p i%1024-64)/s=i:=by
 have e:addr s p i=64+i*s+p*1024:=by unfold addr;omega
 have h1:addr s p i/1024=p:=by rw [e];omega
 have h2:addr s p i%1024=64+i*s:=by rw [e];omega
 refine⟨h1,h2,?_,?_⟩
 ·rw [h2,J4K,Nat.mul_mod_left]
 ·rw [h2,J4K,J4L _ hs]
theorem Q8t {c:CA} {a k i:Nat} (h:Q5v c a=some (k,i)):∃x,c.pg[k]?=some x/\x.1.bits[i]?.getD false=true/\a=addr c.size x.2 i:=by
 unfold Q5v at h;split at h
 ·cases h
 ·rename_i x hx;split at h
  ·rename_i hc;obtain⟨h1,h2,h3,h4⟩:=hc;cases h;refine⟨x,hx,h4,?_⟩;have:=Nat.div_add_mod (a%1024-64) c.size;rw [h3,J1U,J4M] at this;unfold addr;rw [this,h1];omega
  ·cases h
theorem Z2r {pg:List (BM×Nat)} (hs:pg.Pairwise (fun a b=>a.2<b.2)) (k:Nat) (x:BM×Nat) (hx:pg[k]?=some x):Q0r pg x.2=k:=by
 have h1:=Q4o hs x.2 k x hx;have hk:=(J2c.1 hx).1;have Dr:=Q7H pg x.2;rcases J4N (Q0r pg x.2) k with h|h|h
 ·have hy:pg[Q0r pg x.2]?=some (pg[Q0r pg x.2]'(by omega)):=J4d (by omega);have h2:=Q4o hs x.2 _ _ hy;have h3:=J4O.1 hs (Q0r pg x.2) k (by omega) hk h;have h4:pg[k]=x:=(J2c.1 hx).2;rw [h4] at h3;have:=h2.2 h3;omega
 ·exact h
 ·have:=h1.1 h;omega
theorem Z4x {c:CA} (ok:c.Ok) {k i:Nat} {x:BM×Nat} (hx:c.pg[k]?=some x) (h:x.1.bits[i]?.getD false=true):Q5v c (addr c.size x.2 i)=some (k,i):=by
 have DI:=ok.s0;have hi:i<x.1.bits.length:=by
  rcases J4u i x.1.bits.length with e|e
  ·exact e
  ·rw [J3B e] at h;cases h
 have hm:=ok.many x (J4a hx);have hp:=Q4p (s:=c.size) (by omega) hi hm;obtain⟨e1,e2,e3,e4⟩:=Z2q (p:=x.2) (by omega:0<c.size) hp;unfold Q5v;rw [e1,Z2r ok.sorted k x hx,hx];simp only [e3,e4,h];rw [if_pos ⟨trivial,by omega,trivial,trivial⟩]
theorem Z1h {c:CA} (ok:c.Ok) (a:Nat):(Q5v c a).isSome=decide (a∈c.used):=by
 cases hs:Q5v c a with
 | none =>
  symm
  simp only [J4P,decide_eq_false_iff_not];intro hm;obtain⟨x,hx,i,hi,rfl⟩:=mem_used.1 hm;obtain⟨k,hk⟩:=J4A.1 hx;rw [Z4x ok hk hi] at hs;cases hs
 | some y =>
  obtain⟨k,i⟩:=y;obtain⟨x,hx,hb,rfl⟩:=Q8t hs
  symm
  simp only [Option.isSome_some,decide_eq_true_eq];exact mem_used.2 ⟨x,J4a hx,i,hb,rfl⟩
theorem Q7K {c:CA} (ok:c.Ok) {a:Nat} (ha:a∈c.used):∃x∈c.pg,1024*x.2+64<=a/\a+c.size<=1024*x.2+1024:=by
 obtain⟨x,hx,i,hi,rfl⟩:=mem_used.1 ha;have DI:=ok.s0;have CG:i<x.1.bits.length:=by
  rcases J4u i x.1.bits.length with e|e
  ·exact e
  ·rw [J3B e] at hi;cases hi
 have hp:=Q4p (s:=c.size) (by omega) CG (ok.many x hx);exact⟨x,hx,by unfold addr;omega,by unfold addr;omega⟩
def Z9A (c:CA) (k i:Nat) (x:BM×Nat) (w:World) (r:Ending) (w':World):Prop:=r=.returned (.tuple #[.int .i64 ((addr c.size x.2 i:Nat):Int),.int .i64 0])/\Step c.hl (c.pageTo k x {x.1 with bits:=x.1.bits.set i true}).hl w w'
def Q3O (x:BM×Nat):Option Nat:=Q1Y x.1.bits false 0
theorem Z7r {w:World} {c:CA} (h:Sep w c.hl) (ok:c.Ok) (k i:Nat) (x:BM×Nat) (hx:c.pg[k]?=some x) (hf:Q3O x=some i) (A4:∀j y,j<k->c.pg[j]?=some y->Q3O y=none) :
  Calls prog 148 #[.pointer (some ⟨c.c,0,none⟩)] w (Z9A c k i x w):=by
 have hk:=(J2c.1 hx).1;obtain⟨CG,_,MV,_⟩:=Q2O hf;have CC:=ok.len;have DW:∀y∈c.pg,y.1.bits.length<=60:=fun y hy=>by
  rw [ok.many y hy];have:=ok.s0;exact J1M (J4Q this (by omega)) (by omega)
 have SC:=DW x (J4a hx);have Se:i<60:=J1N CG (DW x (J4a hx));obtain⟨rb,cap,AO⟩:∃rb cap,c.rv=some (rb,cap):=by
  cases e:c.rv with
  | none=>have:=ok.rv;rw [e] at this;have:c.pg.length=0:=this;omega
  | some p=>exact⟨p.1,p.2,rfl⟩
 have Bo:w.cell? ⟨c.c,2,none⟩=some (.slice (some ⟨rb,0,none⟩) c.pg.length cap):=by
  have:=(CA.sepC h).cell 2 _ rfl;rw [AO] at this;exact this
 have CL:Hid (∀j y w1,c.pg[j]?=some y->Below w.heap.size w w1->w1.cell? ⟨rb,j*2,none⟩=some (.pointer (some ⟨y.1.b,0,none⟩))/\w1.cell? ⟨rb,j*2+1,none⟩=some (.int .i64 ((1024*y.2:Nat):Int)) /\
   Calls prog 132 #[.pointer (some ⟨y.1.b,0,none⟩),.bool false,.int .i64 0] (w1.alloc (.cells #[.pointer (some ⟨y.1.b,0,none⟩),.int .i64 ((1024*y.2:Nat):Int)] 343)) fun r w'=>r=.returned (.int .i64 (optI (Q3O y)))/\(w1.alloc (.cells #[.pointer (some ⟨y.1.b,0,none⟩),.int .i64 ((1024*y.2:Nat):Int)] 343))=w'):=fun j y w1 hy hb=>by
  have s1:=(h.grown hb).sep;have BZ:=CA.sepR s1;rw [AO] at BZ;obtain⟨e1,e2⟩:=Q1S _ _ _ hy;refine⟨Q0Y BZ _ _ e1,Q0Y BZ _ _ e2,?_⟩;have:=DW y (J4a hy);exact Q3Y (CA.sepB (s1.alloc _) j y hy) false 0 (by omega) (by omega)
 have Jd:Hid (∀w1,Below w.heap.size w w1 ->
   Calls prog 223 #[.pointer (some ⟨x.1.b,0,none⟩),.bool true,.slice (some ⟨w1.heap.size+1,0,none⟩) 1 1] ((w1.alloc (.cells #[.pointer (some ⟨x.1.b,0,none⟩),.int .i64 ((1024*x.2:Nat):Int)] 343)).alloc (.cells #[.int .i64 i] 3)) fun r w4=>r=.returned (.int .i64 1) /\
    w4.cell? ⟨w1.heap.size,0,none⟩=some (.pointer (some ⟨x.1.b,0,none⟩))/\w4.cell? ⟨w1.heap.size,1,none⟩=some (.int .i64 ((1024*x.2:Nat):Int)) /\
    Calls prog 225 #[.pointer (some ⟨c.c,0,none⟩),.agg #[.pointer (some ⟨x.1.b,0,none⟩),.int .i64 ((1024*x.2:Nat):Int)],.int .i64 i] w4 fun r w5=>r=.returned (.int .i64 ((addr c.size x.2 i:Nat):Int))/\Z9A c k i x w (.returned (.tuple #[.int .i64 ((addr c.size x.2 i:Nat):Int),.int .i64 0])) w5):=fun w1 hb=>by
  have s1:=(h.grown hb).sep;have s3:=(s1.alloc (.cells #[.pointer (some ⟨x.1.b,0,none⟩),.int .i64 ((1024*x.2:Nat):Int)] 343)).alloc (.cells #[.int .i64 i] 3);have sb:=CA.sepB s3 k x hx;have Ab:∀b∈keys x.1.hl,b<w1.heap.size:=fun b AC=>(CA.sepB s1 k x hx).lt AC
  have hz:((w1.alloc (.cells #[.pointer (some ⟨x.1.b,0,none⟩),.int .i64 ((1024*x.2:Nat):Int)] 343))).heap.size=w1.heap.size+1:=by simp
  have AQ:=Q2A sb true i CG (by omega) (by rw [MV];simp) (w1.heap.size+1) (by
   have:=(Cells.new (w1.alloc (.cells #[.pointer (some ⟨x.1.b,0,none⟩),.int .i64 ((1024*x.2:Nat):Int)] 343)) 3 [.int .i64 i]).cell 0 _ rfl;rw [hz] at this;exact this) (fun hm=>by have:=Ab _ hm;omega)
  refine AQ.mono ?_;rintro r w4 ⟨rfl,Ao⟩;have Be:=CA.turnB s3 k x hx {x.1 with bits:=x.1.bits.set i true} rfl Ao;have AP:=(h.grown hb).trans Be.from_alloc.from_alloc;have DS:w1.heap.size∉keys x.1.hl:=fun hm=>by have:=Ab _ hm;omega
  have AC:=Ao.chg.block w1.heap.size (by simp;omega) DS;have AX:=((Cells.new w1 343 [.pointer (some ⟨x.1.b,0,none⟩),.int .i64 ((1024*x.2:Nat):Int)]).alloc (.cells #[.int .i64 i] 3))
  have d0:w4.cell? ⟨w1.heap.size,0,none⟩=some (.pointer (some ⟨x.1.b,0,none⟩)):=by simp only [World.cell?,AC];exact AX.cell 0 _ rfl
  have d1:w4.cell? ⟨w1.heap.size,1,none⟩=some (.int .i64 ((1024*x.2:Nat):Int)):=by simp only [World.cell?,AC];exact AX.cell 1 _ rfl
  have ok':=CA.ok_page ok k x hx {x.1 with bits:=x.1.bits.set i true} (by simp);have Gh:=Q8q AP.sep ok' x.1.b x.2 i (ok.lt x (J4a hx)) (by omega);refine⟨rfl,d0,d1,Gh.mono ?_⟩;rintro r w5 ⟨rfl,AD⟩;exact⟨rfl,rfl,AP.trans (AP.sep.grown AD)⟩
 have De:Hid (∀j,j<c.pg.length->∃y,c.pg[j]?=some y):=fun j hj=>⟨_,J4d hj⟩
 have Gq:=Q0a A4;have HX:=Q0a hx;have HF:=Q0a hf;clear h ok hx hf A4 CG MV DW SC AO;generalize GP:c.pg=pg at *
 generalize pg.length=np at *
 clear GP;obtain⟨TA,PV⟩:∃TA:Ending->World->Prop,TA=Z9A c k i x w:=⟨_,rfl⟩
 rw [<- PV] at Jd ⊢;clear PV;generalize addr c.size x.2 i=ad at *
 generalize c.c=cc at *
 go_enter func148,ntmps148;go_wp2_with fail
 go_loopw [19] (fun jv wr=>∃j:Nat,jv=.int .i64 j/\j<=k/\Below w.heap.size w wr) (fun jv _=>k+1-(intOf jv).toNat)
 case atStart=>exact⟨0,rfl,J3O _,Below.refl _ _⟩
 case round =>
  obtain⟨j,rfl,hj,hb⟩:=hrel;obtain⟨y,hy⟩:=De.out j (by omega);obtain⟨c1,c2,AI⟩:=CL.out j y wr hy hb;have Fq:(0:Int)<=j:=by omega
  have MQ:(j:Int)<np:=by omega
  have RA:(j:Int)<1048577:=by omega
  by_cases Ab:j<k
  ·rw [Gq.out j y Ab hy] at AI;unfold optI at AI;have EW:=Q0a AI;have HB:=Q0a (((hb.alloc (by exact hb.size) (.cells #[.pointer (some ⟨y.1.b,0,none⟩),.int .i64 ((1024*y.2:Nat):Int)] 343))));clear AI hy;generalize 1024*y.2=pv at *
   go_wp2_with (go_at_call 132;refine EW.out.mono ?_;rintro e w' ⟨rfl,rfl⟩);go_roundw
   case rel=>exact⟨j+1,by go_num,by omega,HB.out⟩
   case measure=>simp [intOf];omega
  ·obtain rfl:j=k:=by omega
   rw [HX.out] at hy;cases hy;rw [HF.out] at AI;unfold optI at AI;have EW:=Q0a AI;have HT:=Q0a (Jd.out wr hb);have BI:(0:Int)<=i:=by omega
   have J4:(i:Int)<60:=by omega
   have Jv:decide ((0:Int)<=(i:Int))=true:=by simp
   clear AI;generalize 1024*x.2=pv at *
   go_wp2_with (go_at_call 132;refine EW.out.mono ?_;rintro e w' ⟨rfl,rfl⟩);refine HT.out.mono ?_;rintro r w4 ⟨rfl,d0,d1,Gh⟩;have HP:=Q0a Gh;clear Gh;go_wp2_with fail;refine HP.out.mono ?_;rintro r w5 ⟨rfl,Mr⟩;have OK:=Q0a Mr;clear Mr;go_wp2_with fail;exact OK.out
end Go.Proofs.YtlakjlmaboioiaaGreatDoor
namespace Go.Proofs.YtlakjlmaboioiaaGreatDoor
open Go.Proofs.Tryz
def clr (u:Nat->Bool) (k i:Nat):Bool:=(List.range (2 ^ k)).all fun j=>!u (i*2 ^ k+j)
theorem clr_iff (u:Nat->Bool) (k i:Nat):clr u k i=true↔∀p,p/2 ^ k=i->u p=false:=by
 unfold clr;rw [J4R];have hk:0<2 ^ k:=J3b k
 constructor
 ·intro h p hp;have:=h (p%2 ^ k) (J2b.2 (J4S _ hk));have e:i*2 ^ k+p%2 ^ k=p:=by
   rw [<- hp,J4M];exact Nat.div_add_mod p (2 ^ k)
  rw [e] at this;simpa using this
 ·intro h j hj;have Bj:=J2b.1 hj;have:u (i*2 ^ k+j)=false:=h _ (by rw [J2V,J4T _ _ hk,Nat.div_eq_of_lt Bj,J4q]);simp [this]
theorem Z1i (u:Nat->Bool) (p:Nat):clr u 0 p=!u p:=by simp [clr]
theorem div_succ (p k:Nat):p/2 ^ (k+1)=p/2 ^ k/2:=by rw [J2U,J3o]
theorem clr_half (u:Nat->Bool) (k i:Nat):clr u (k+1) i=(clr u k (2*i)&&clr u k (2*i+1)):=by
 rw [J4U,J2g,clr_iff,clr_iff,clr_iff]
 constructor
 ·intro h;exact⟨fun p hp=>h p (by rw [div_succ,hp];omega),fun p hp=>h p (by rw [div_succ,hp];omega)⟩
 ·rintro⟨h1,h2⟩ p hp;rw [div_succ] at hp;have:p/2 ^ k=2*i∨p/2 ^ k=2*i+1:=by omega
  rcases this with h|h
  ·exact h1 p h
  ·exact h2 p h
def fre (u:Nat->Bool) (top k i:Nat):Bool:=clr u k i&&(k==top||!clr u (k+1) (i/2))
def setU (u:Nat->Bool) (p:Nat) (b:Bool):Nat->Bool:=fun x=>if x=p then b else u x
theorem clr_set_true (u:Nat->Bool) (p k i:Nat):clr (setU u p true) k i=(clr u k i&&!(p/2 ^ k==i)):=by
 rw [J4U,J2g,clr_iff,clr_iff];simp only [J4V,beq_eq_false_iff_ne,setU]
 constructor
 ·intro h;refine⟨fun q hq=>?_,fun e=>?_⟩
  ·have:=h q hq;split at this
   ·cases this
   ·exact this
  ·have:=h p e;simp at this
 ·rintro⟨h1,h2⟩ q hq;rw [if_neg (fun e:q=p=>h2 (by rw [<- e];exact hq))];exact h1 q hq
theorem Q4q (u:Nat->Bool) (p k i:Nat) (h:p/2 ^ k≠i):clr (setU u p false) k i=clr u k i:=by
 rw [J4U,clr_iff,clr_iff]
 constructor
 ·intro a q hq;have:=a q hq;simp only [setU] at this;split at this
  ·rename_i e;subst e;exact absurd hq h
  ·exact this
 ·intro a q hq;simp only [setU];rw [if_neg (fun e:q=p=>h (by rw [<- e];exact hq))];exact a q hq
theorem Q5C {u:Nat->Bool} {k:Nat} (e:Nat) {i:Nat} (h:clr u (k+e) (i/2 ^ e)=true):clr u k i=true:=by
 rw [clr_iff] at h ⊢;intro p hp;refine h p ?_;rw [J3n,<- J3o,hp]
def sib (i:Nat):Nat:=if i%2=0 then i+1 else i-1
theorem Q4r (i:Nat):sib i/2=i/2/\sib i≠i:=by unfold sib;split <;> omega
theorem J0O {x a:Nat} (h:x/2=a/2) (Aa:x≠a):x=sib a:=by unfold sib;split <;> omega
theorem Z1j (u:Nat->Bool) (top k p:Nat) (hk:k<=top) (h:fre u top k (p/2 ^ k)=true) (j x:Nat) (hj:j<=top) :
  fre (setU u p true) top j x=if j<k then (fre u top j x||(x==sib (p/2 ^ j))) else if j=k then (fre u top j x&&!(x==p/2 ^ k)) else fre u top j x:=by
 unfold fre at h;rw [J2g] at h;obtain⟨hc,hp⟩:=h;have above:∀m y,k<m->m<=top->clr u m y=true->p/2 ^ m≠y:=by
  intro m y hm Np Dm e;have Aa:(k==top)=false:=by simp;omega
  rw [Aa] at hp;simp only [J4W,J4V] at hp;have:clr u (k+1) (p/2 ^ k/2)=true:=by
   refine Q5C (m-(k+1)) ?_;rw [show k+1+(m-(k+1))=m from by omega,<- div_succ,J3o,<- J3n,show k+1+(m-(k+1))=m from by omega,e];exact Dm
  rw [this] at hp;cases hp
 have same:∀m y,k<m->m<=top->clr (setU u p true) m y=clr u m y:=by
  intro m y hm Np;rw [clr_set_true];cases Dm:clr u m y with
  | false=>rfl
  | true=>simp [above m y hm Np Dm]
 by_cases h1:j<k
 ·rw [if_pos h1];have U8:(j==top)=false:=by simp;omega
  have Py:p/2 ^ j/2 ^ (k-j)=p/2 ^ k:=by rw [J3o,<- J3n,show j+(k-j)=k from by omega]
  unfold fre;rw [clr_set_true,clr_set_true,div_succ,U8];simp only [J4W];generalize hg:p/2 ^ j=a at *
  obtain⟨s1,s2⟩:=Q4r a;by_cases Cj:x/2 ^ (k-j)=p/2 ^ k
  ·have c1:clr u j x=true:=Q5C (k-j) (by rw [Cj,show j+(k-j)=k from by omega];exact hc);have c2:clr u (j+1) (x/2)=true:=by
    refine Q5C (k-(j+1)) ?_;have e3:x/2/2 ^ (k-(j+1))=x/2 ^ (k-j):=by
     rw [show k-j=(k-(j+1))+1 from by omega,J4X,J3o]
    rw [show j+1+(k-(j+1))=k from by omega,e3,Cj];exact hc
   rw [c1,c2];simp only [J3c,Bool.not_true,Bool.and_false,J4W,Bool.not_not];rw [J4U];simp only [J2g,J4V,beq_eq_false_iff_ne,beq_iff_eq]
   constructor
   ·rintro⟨e1,e2⟩;exact J0O e2.symm (fun e=>e1 e.symm)
   ·rintro rfl;exact⟨fun e=>s2 e.symm,s1.symm⟩
  ·have hx:x/2≠a/2:=by
    intro e;apply Cj;rw [<- Py,show k-j=(k-j-1)+1 from by omega,J4X,<- J3o,e,J3o]
   have e1:(a==x)=false:=by simp;omega
   have e2:(a/2==x/2)=false:=by simp;omega
   have e3:(x==sib a)=false:=by simp;rintro rfl;exact hx s1
   rw [e1,e2,e3];simp
 ·rw [if_neg h1];by_cases h2:j=k
  ·subst h2;rw [if_pos rfl];unfold fre;rw [clr_set_true,show (p/2 ^ j==x)=(x==p/2 ^ j) from BEq.comm];by_cases ht:j=top
   ·subst ht;simp
   ·rw [same (j+1) _ (by omega) (by omega)];cases clr u j x <;> cases (x==p/2 ^ j) <;> simp
  ·rw [if_neg h2];unfold fre;rw [same j x (by omega) hj];by_cases ht:j=top
   ·subst ht;simp
   ·rw [same (j+1) _ (by omega) (by omega)]
theorem Z4y (u:Nat->Bool) (top p:Nat) (h:u p=false):∃k,k<=top/\fre u top k (p/2 ^ k)=true:=by
 have key:∀n,n<=top->clr u n (p/2 ^ n)=true∨∃k,k<n/\fre u top k (p/2 ^ k)=true:=by
  intro n
  induction n with
  | zero=>intro _;left;rw [Z1i];simp [h]
  | succ n ih =>
   intro hn;rcases ih (by omega) with hc|⟨k,hk,hf⟩
   ·cases Bo:clr u (n+1) (p/2 ^ (n+1)) with
    | true=>exact .inl rfl
    | false =>
     right;refine⟨n,by omega,?_⟩;unfold fre;rw [div_succ] at Bo;rw [hc,Bo];simp
   ·exact .inr ⟨k,by omega,hf⟩
 rcases key top (J1L _) with hc|⟨k,hk,hf⟩
 ·exact⟨top,J1L _,by unfold fre;rw [hc];simp⟩
 ·exact⟨k,by omega,hf⟩
theorem Q8u {u:Nat->Bool} {top k i p:Nat} (h:fre u top k i=true) (hp:p/2 ^ k=i):u p=false:=by
 unfold fre at h;rw [J2g] at h;exact (clr_iff u k i).1 h.1 p hp
theorem Q8v {u:Nat->Bool} {top k i l j p:Nat} (hk:k<=top) (hl:l<=top) (h:fre u top k i=true) (h':fre u top l j=true) (hp:p/2 ^ k=i) (By:p/2 ^ l=j):k=l/\i=j:=by
 have main:∀{k l:Nat},l<=top->fre u top k (p/2 ^ k)=true->fre u top l (p/2 ^ l)=true->¬k<l:=by
  intro k l hl h h' Ab;unfold fre at h h';rw [J2g] at h h';have Aa:(k==top)=false:=by simp;omega
  rw [Aa] at h;simp only [J4W,J4V] at h;have:clr u (k+1) (p/2 ^ k/2)=true:=by
   refine Q5C (l-(k+1)) ?_;rw [show k+1+(l-(k+1))=l from by omega,<- div_succ,J3o,<- J3n,show k+1+(l-(k+1))=l from by omega];exact h'.1
  rw [this] at h;cases h.2
 subst hp;subst By;have:k=l:=Nat.le_antisymm (by have:=main hk h' h;omega) (by have:=main hl h h';omega);subst this;exact⟨rfl,rfl⟩
theorem Z4z {u:Nat->Bool} {p:Nat} (h:u p=true):setU (setU u p false) p true=u:=by
 funext x;unfold setU;split
 ·rename_i e;rw [e,h]
 ·rfl
theorem Z7s (u:Nat->Bool) (top p k:Nat) (hk:k<=top) (hu:u p=true) (hc:clr (setU u p false) k (p/2 ^ k)=true) (hn:k<top->clr u k (sib (p/2 ^ k))=false) (j x:Nat) (hj:j<=top) :
  fre (setU u p false) top j x=if j<k then (fre u top j x&&!(x==sib (p/2 ^ j))) else if j=k then (fre u top j x||(x==p/2 ^ k)) else fre u top j x:=by
 have hf:fre (setU u p false) top k (p/2 ^ k)=true:=by
  unfold fre;rw [hc,J3c,Bool.or_eq_true];by_cases ht:k=top
  ·left;simp [ht]
  ·right;have h1:=hn (by omega);obtain⟨s1,s2⟩:=Q4r (p/2 ^ k);rw [clr_half,J4V,Bool.and_eq_false_iff];rw [<- Q4q u p k (sib (p/2 ^ k)) (fun e=>s2 e.symm)] at h1;have:sib (p/2 ^ k)=2*(p/2 ^ k/2)∨sib (p/2 ^ k)=2*(p/2 ^ k/2)+1:=by omega
   rcases this with e|e
   ·left;rw [<- e];exact h1
   ·right;rw [<- e];exact h1
 have main:=Z1j (setU u p false) top k p hk hf j x hj;rw [Z4z hu] at main;by_cases h1:j<k
 ·rw [if_pos h1] at main ⊢;rw [main];by_cases hx:x=sib (p/2 ^ j)
  ·obtain⟨s1,s2⟩:=Q4r (p/2 ^ j);have:fre (setU u p false) top j x=false:=by
    cases FS:fre (setU u p false) top j x with
    | false=>rfl
    | true =>
     have e1:x*2 ^ j/2 ^ j=x:=J4L _ (J3b j);have e2:x*2 ^ j/2 ^ k=p/2 ^ k:=by
      rw [show k=j+(k-j) from by omega,J3n,<- J3o,e1,<- J3o,show k-j=(k-j-1)+1 from by omega,J4X,<- J3o,<- J3o,hx,s1]
     have:=Q8v hj hk FS hf e1 e2;omega
   rw [this];simp [hx]
  ·have e9:(x==sib (p/2 ^ j))=false:=by simpa using hx
   rw [e9];simp
 ·rw [if_neg h1] at main ⊢;by_cases h2:j=k
  ·subst h2;rw [if_pos rfl] at main ⊢;rw [main];by_cases hx:x=p/2 ^ j
   ·subst hx;rw [hf];simp
   ·have e9:(x==p/2 ^ j)=false:=by simpa using hx
    rw [e9];simp
  ·rw [if_neg h2] at main ⊢;exact main.symm
theorem Z7t (u:Nat->Bool) (top:Nat) (h:∀p,p<2 ^ top->u p=false) (k i:Nat) (hk:k<=top) (hi:i<2 ^ (top-k)):fre u top k i=decide (k=top):=by
 have hc:∀m y,m<=top->y<2 ^ (top-m)->clr u m y=true:=by
  intro m y hm hy;rw [clr_iff];intro p hp;refine h p ?_;have h1:p<(y+1)*2 ^ m:=by rw [<- hp];rw [J4M];exact Nat.lt_mul_div_succ p (J3b m)
  have h2:(y+1)*2 ^ m<=2 ^ (top-m)*2 ^ m:=J4I _ hy;rw [<- J3n,show top-m+m=top from by omega] at h2;omega
 unfold fre;rw [hc k i hk hi];by_cases ht:k=top
 ·subst ht;simp
 ·have A3:i/2<2 ^ (top-(k+1)):=by
   rw [show top-k=top-(k+1)+1 from by omega,J2U] at hi;omega
  rw [hc (k+1) (i/2) (by omega) A3];simp [ht]
end Go.Proofs.YtlakjlmaboioiaaGreatDoor
