/- SpaceFails returns true at every input. No condition. Part of its proof. -/
import Derived.Test.YtfidemmgofcnmaaGreatDoorSf03
set_option maxHeartbeats 4000000
set_option maxRecDepth 100000
set_option linter.unusedVariables false
namespace Go.Proofs.YtfidemmgofcnmaaGreatDoor
open Go.RowKit Go.Proofs.Tryz
theorem Z0t{P:Program}(w:World)(t e ty:TypeId)(z:Value)(ht:P.underlying t=some (.slice e))(hv:∀w,(zeroValue e).run P w=.ok z w)(g o n c:Nat)(hn:0<n)(Ag:Array Value)(T:TypeId)(hg:w.heap[g]?=some (.cells Ag T (0,0)))
  (cs:List Value) (B4:(Builtin.zeroCells z.cells n).toList=cs) (An:o+cs.length<=Ag.size) (h1:∀v∈cs,v.oneCell'=true) :
  (Builtin.clear_ #[t] ty #[.slice (some ⟨g,o,none⟩) n c]).run P w=.ok (.tuple #[]) (w.setRow g (Ag.toList.take o++cs++Ag.toList.drop (o+cs.length)).toArray):=by
 have Ap:=run_storeCells_at P g o T cs 0 Ag w hg (by simpa using An) h1;simp only[J3k] at Ap;obtain⟨m,rfl⟩:∃m,n=m+1:=⟨n-1,by omega⟩
 simp[Builtin.clear_,run_underlying ht,hv,B4,Ap]
theorem Z4V(Ag xs zs:List Value)(p s:Nat)(hx:Ag.take xs.length=xs)(hp:p+s<=xs.length)(hz:zs.length=s)(hl:xs.length<=Ag.length) :
  let c1:=Ag.take p++xs.drop (p+s)++Ag.drop (p+(xs.drop (p+s)).length)
  let c2:=c1.take (xs.length-s)++zs++c1.drop (xs.length-s+zs.length)
  c1.length=Ag.length/\c2.length=Ag.length/\c2.take (xs.length-s)=xs.take p++xs.drop (p+s):=by
 have e0:(xs.drop (p+s)).length=xs.length-(p+s):=J5u;have e1:(Ag.take p++xs.drop (p+s)++Ag.drop (p+(xs.drop (p+s)).length)).length=Ag.length:=by
  simp only[J3M,J5v,J5u];omega
 refine⟨e1,?_,?_⟩
 ·simp only[J3M,J5v,J5u];omega
 ·have ht:(Ag.take p++xs.drop (p+s)++Ag.drop (p+(xs.drop (p+s)).length)).take (xs.length-s)=xs.take p++xs.drop (p+s):=by
   have e2:(Ag.take p++xs.drop (p+s)).length=xs.length-s:=by simp;omega
   rw[<- e2,J5A];congr 1;rw[<- hx,J5x,show min p xs.length=p by omega]
  show List.take (xs.length-s) _=_;rw[ht,J4c,J5w (by simp;omega),J5a (by simp;omega)]
theorem Q0E{P:Program}{ops:Array Oper}{o:Oper}{a:Act}{w:World}{K:Act->World->Prop}{Q:Exit->Act->World->Prop}{E:Prop}
  (hg:o.guard=none) (d x:Operand) (dT sT:TypeId) (hop:o.op=Op.call {callee:=Callee.builtin Builtin.append,args:=#[d,x],argTypes:=#[dT,sT]})
  (v u:Value) (hd:a.eval d=v) (hx:a.eval x=u) {v':Value} {w':World} (hr:(Builtin.append_ #[dT,sT] o.type #[v,u]).run P w=.ok v' w') (hK:K (a.put o.dst v') w') :
  if Region.wanted o (yielded ops a.tmps)=true then Oper.wp P o a w K Q else E:=by
 have hw:Region.wanted o (yielded ops a.tmps)=true:=by simp[Region.wanted,hg]
 rw[if_pos hw];unfold Oper.wp execOp;simp only[hop,resolve,invoke,builtin,Sem.run_bind,Sem.run_pure,Result.andThen_ok,List.map_toArray,J3e,J5I,hd,hx,hr];exact hK
def DelP(g cap k:Nat)(ys:List Value)(w:World)(r:Ending)(w':World):Prop:=
 r=.returned (.slice (some ⟨g,0,none⟩) k cap)/\w'.ownsRow 0 236 2 (.slice (some ⟨g,0,none⟩) k cap) k ys/\w.grownBy w' (some g)
theorem J0A{w:World}{g cap k i:Nat}{xs:List Value}{Ag:Array Value}(hg:w.heap[g]?=some (.cells Ag 236 (0,0)))(B4:Ag.size=cap*2)(AW:Ag.toList.take xs.length=xs)(hx:xs.length=(k+1)*2)(hi:i<=k)(hn:k<=1048576)(hc:k+1<=cap)(CR:cap<=maxLen)
  (ox:∀v∈xs,v.oneCell'=true) :
  Calls prog 146 #[.slice (some ⟨g,0,none⟩) (k+1) cap,.int .i64 i,.int .i64 ((i:Int)+1)] w (DelP g cap k (xs.take (i*2)++xs.drop (i*2+2)) w):=by
 obtain⟨i0,BJ,Bx,AX,MS⟩:=info_parts infopage;have AM:Ag.toList.length=cap*2:=by simpa using B4
 have Au:∀j v,xs[j]?=some v->w.drew.cell? ⟨g,j,none⟩=some v:=fun j v hj=>by
  have:Ag.toList[j]?=some v:=by
   rw[<- AW] at hj;rw[J5f] at hj;split at hj
   ·exact hj
   ·cases hj
  rw[J5C] at this;show w.cell? _=_;simp[World.cell?,hg,this]
 have DF:(xs.drop (i*2+2)).length=(k-i)*2:=by rw[J5u,hx];omega
 have Jy:=Z4V Ag.toList xs [.pointer none,.int .i64 0] (i*2) 2 AW (by omega) rfl (by omega);obtain⟨e1,e2,e3⟩:=Jy;rw[show xs.length-2=k*2 by omega] at e2 e3;obtain⟨c1,CM⟩:∃c1:List Value,c1=Ag.toList.take (i*2)++xs.drop (i*2+2)++Ag.toList.drop (i*2+(xs.drop (i*2+2)).length):=⟨_,rfl⟩
 rw[<- CM] at e1 e2 e3;obtain⟨c2,BF⟩:∃c2:List Value,c2=c1.take (k*2)++[.pointer none,.int .i64 0]++c1.drop (k*2+[Value.pointer none,.int .i64 0].length):=⟨_,rfl⟩
 rw[<- BF] at e2 e3;obtain⟨a,hA,FG⟩:∃a:Addr,(if cap=i+1 then(some (⟨g,0,none⟩:Addr)) else some ⟨g,(i+1)*2,none⟩)=some a/\∀j u,(xs.drop (i*2+2))[j]?=some u->w.drew.cell? (a.add j)=some u:=by
  by_cases Ih:cap=i+1
  ·refine⟨⟨g,0,none⟩,by simp[Ih],fun j u hj=>?_⟩;have:(xs.drop (i*2+2)).length=0:=by rw[DF];omega
   rw[J5s this] at hj;simp at hj
  ·refine⟨⟨g,(i+1)*2,none⟩,by simp[Ih],fun j u hj=>?_⟩;rw[Addr.add_lit];exact Au _ u (by rw[J5E] at hj;rwa [show(i+1)*2+j=i*2+2+j by omega])
 have TR:∀ty,(Builtin.append_ #[231,231] ty #[.slice (some ⟨g,0,none⟩) i cap,.slice (some a) (k-i) (cap-(i+1))]).run prog w.drew=.ok (.slice (some ⟨g,0,none⟩) k cap) (w.drew.setRow g c1.toArray):=fun ty=>by
  have:=run_append_room (P:=prog) w.drew 231 ty 236 i0 underlying231 BJ g i cap Ag hg a (k-i) (cap-(i+1)) (xs.drop (i*2+2)) (by rw[AX];exact DF) FG (fun v hv=>ox v (J5F hv)) (by omega) (by rw[AX,DF,B4];omega);rw[AX,show i+(k-i)=k by omega] at this;rw[this,CM]
 have Ch:(w.drew.setRow g c1.toArray).heap[g]?=some (.cells c1.toArray 236 (0,0)):=setRow_heap w.drew g Ag _ _ _ hg;have V5:∀ty,(Builtin.clear_ #[231] ty #[.slice (some ⟨g,k*2,none⟩) 1 (cap-k)]).run prog (w.drew.setRow g c1.toArray)=.ok (.tuple #[]) ((w.drew.setRow g c1.toArray).setRow g c2.toArray):=fun ty=>by
  have:=Z0t (P:=prog) (w.drew.setRow g c1.toArray) 231 236 ty _ underlying231 zeroValue236 g (k*2) 1 (cap-k) (by omega) c1.toArray 236 Ch [.pointer none,.int .i64 0] (by first|kernel_rfl|decide|simp[Builtin.zeroCells,Value.cells]) (by simp only[J5H,J3N,J5B];omega) (by simp[Value.oneCell']);rw[this,BF]
 have HR:Hid (DelP g cap k (xs.take (i*2)++xs.drop (i*2+2)) w (.returned (.slice (some ⟨g,0,none⟩) k cap)) ((w.drew.setRow g c1.toArray).setRow g c2.toArray)):=by
  have Bu:((w.drew.setRow g c1.toArray).setRow g c2.toArray).heap[g]?=some (.cells c2.toArray 236 (0,0)):=setRow_heap _ g c1.toArray _ _ _ Ch;refine⟨rfl,⟨by simp only[J3M,J5v,DF,hx];omega,.inr ⟨g,cap,c2.toArray,rfl,J5e _,Bu,by omega,CR,by simp only[J5H];omega,?_⟩⟩,⟨rfl,rfl,rfl,by simp,fun j _ hj=>?_⟩⟩
  ·first
    | exact e3
    | (have:(xs.take (i*2)++xs.drop (i*2+2)).length=k*2:=(by simp only[J3M,J5v,DF,hx];omega);rw[this];exact e3)
  ·have AC:j≠g:=fun e=>hj (by rw[e])
   rw[setRow_other _ g j _ AC,setRow_other _ g j _ AC];rfl
 clear Au hg B4 AW Ch e1 e2 e3 AM ox DF hx CM BF FG BJ Bx AX MS;generalize xs.take (i*2)++xs.drop (i*2+2)=ys at *
 generalize c1.toArray=a1 at *
 generalize c2.toArray=a2 at *
 have PX:cap<=9223372036854775807:=by unfold maxLen at CR;omega
 have AU:¬((i:Int)=(i:Int)+1):=by omega
 have SH:((i:Int)+1).toNat=i+1:=by omega
 have AW:((k:Int)+1).toNat=k+1:=by omega
 have Aw:(0:Int)<=(i:Int)+1:=by omega
 have Ai:(0:Int)<=(k:Int)+1:=by omega
 have Ar:(i:Int)<=(i:Int)+1:=by omega
 have A9:(i:Int)+1<=(k:Int)+1:=by omega
 have AD:(k:Int)<=(k:Int)+1:=by omega
 have C8:(k:Int)+1<=(cap:Int):=by omega
 have GX:i<=cap:=by omega
 have G3:¬(cap=k):=by omega
 have mixed:prog.follows .mixedOrders=true:=by kernel_rfl
 go_enter func146,ntmps146;go_wp2_with fail
 go_region_law_o (refine Q0E rfl _ _ 231 231 rfl _ _ (by simp[Act.eval,Act.put]) (by simp[Act.eval,Act.put]) (TR _) ?_)
 go_wp2_with fail;go_ret;exact HR.out
theorem Q7l(pg:List (BM×Nat))(k:Nat)(x:BM×Nat)(m':BM)(hx:pg[k]?=some x)(hb:m'.b=x.1.b):Q0i (pg.set k (m',x.2))=Q0i pg:=by
 induction pg generalizing k with
 | nil=>rfl
 | cons y r ih =>
  cases k with
  | zero =>
   simp at hx;subst hx;show [ptr m'.b,_]++Q0i r=[ptr y.1.b,_]++Q0i r;rw[hb]
  | succ k =>
   show _++Q0i (r.set k (m',x.2))=_++Q0i r;rw[ih k (by simpa using hx)]
def CA.pageTo(c:CA)(k:Nat)(x:BM×Nat)(m':BM):CA:={c with pg:=c.pg.set k (m',x.2)}
theorem CA.turnB{w w':World}{c:CA}(h:Sep w c.hl)(k:Nat)(x:BM×Nat)(hx:c.pg[k]?=some x)(m':BM)(hb:m'.b=x.1.b)(Ap:Step x.1.hl m'.hl w w'):Step c.hl (c.pageTo k x m').hl w w':=by
 have hk:=(J3t.1 hx).1;have e1:pgH c.pg=(c.pg.take k).flatMap (fun x=>x.1.hl)++x.1.hl++(c.pg.drop (k+1)).flatMap (fun x=>x.1.hl):=Q4r (fun x:BM×Nat=>x.1.hl) _ _ _ hx;have e2:pgH (c.pg.set k (m',x.2))=(c.pg.take k).flatMap (fun x=>x.1.hl)++m'.hl++(c.pg.drop (k+1)).flatMap (fun x=>x.1.hl):=J0c (fun x:BM×Nat=>x.1.hl) _ _ _ hk;have e3:c.hl=((c.c,isC 233 [ptr c.bb,.int .i64 c.size,lvOf c.rv c.pg.length])::(rowH c.rv 236 2 (Q0i c.pg)++(c.pg.take k).flatMap (fun x=>x.1.hl)))++x.1.hl++(c.pg.drop (k+1)).flatMap (fun x=>x.1.hl):=by
  unfold CA.hl;rw[e1];simp
 have e4:(c.pageTo k x m').hl=((c.c,isC 233 [ptr c.bb,.int .i64 c.size,lvOf c.rv c.pg.length])::(rowH c.rv 236 2 (Q0i c.pg)++(c.pg.take k).flatMap (fun x=>x.1.hl)))++m'.hl++(c.pg.drop (k+1)).flatMap (fun x=>x.1.hl):=by
  unfold CA.hl CA.pageTo;simp only[];rw[e2,Q7l _ _ _ _ hx hb,J4O];simp
 rw[e3,e4];rw[e3] at h;exact Step.frame _ _ h Ap
theorem CA.ok_page{c:CA}(ok:c.Ok)(k:Nat)(x:BM×Nat)(hx:c.pg[k]?=some x)(m':BM)(hl:m'.bits.length=x.1.bits.length):(c.pageTo k x m').Ok:=by
 have hk:=(J3t.1 hx).1;have hm:(c.pg.set k (m',x.2)).map Prod.snd=c.pg.map Prod.snd:=by
  rw[List.map_set];show(c.pg.map Prod.snd).set k x.2=_;have:(c.pg.map Prod.snd)[k]?=some x.2:=by rw[J4N,hx];rfl
  apply J4K
  intro j;rw[J4J];split
  ·rename_i e;subst e;rw[this];simp[hk]
  ·rfl
 have Cm:∀y∈c.pg.set k (m',x.2),y=(m',x.2)∨y∈c.pg:=fun y hy=>by
  rcases J5J hy with h|h
  ·exact .inr h
  ·exact .inl h
 have JV:=J5q hx;refine⟨by simpa[CA.pageTo] using ok.rv,ok.s0,ok.s1,?_,?_,?_,by simpa[CA.pageTo] using ok.len⟩
 ·have h1:(c.pg.map Prod.snd).Pairwise (·<·):=J3H.2 ok.sorted;rw[<- hm] at h1;exact J3H.1 h1
 ·intro y hy;rcases Cm y hy with rfl|h
  ·exact ok.lt x JV
  ·exact ok.lt y h
 ·intro y hy;rcases Cm y hy with rfl|h
  ·exact hl.trans (ok.many x JV)
  ·exact ok.many y h
def J0B(c:CA)(k i:Nat)(x:BM×Nat)(w:World)(r:Ending)(w':World):Prop:=r=.returned (.int .i64 0)/\Step c.hl (c.pageTo k x {x.1 with bits:=x.1.bits.set i false}).hl w w'
theorem Z4W{w:World}{c:CA}(h:Sep w c.hl)(ok:c.Ok)(a:Nat)(ha:a<9223372036854775808)(k i:Nat)(x:BM×Nat)(hs:Q5w c a=some (k,i))(hx:c.pg[k]?=some x)(hi:x.1.bits[i]?.getD false=true)(Cd:cntB (x.1.bits.set i false)≠0) :
  Calls prog 77 #[.pointer (some ⟨c.c,0,none⟩),.int .i64 a] w (J0B c k i x w):=by
 have k1:=Q8c h ok a ha;rw[hs] at k1;have hk:=(J3t.1 hx).1;have C4:i<x.1.bits.length:=by
  rcases J5K i x.1.bits.length with e|e
  ·exact e
  ·rw[J4R e] at hi;cases hi
 have GQ:=ok.many x (J5q hx);have Gp:x.1.bits.length<=1048576:=by rw[GQ];have:=J4I 960 c.size;omega
 have CT:=ok.len;obtain⟨rb,cap,A6⟩:∃rb cap,c.rv=some (rb,cap):=by
  cases e:c.rv with
  | none=>have:=ok.rv;rw[e] at this;have:c.pg.length=0:=this;omega
  | some p=>exact⟨p.1,p.2,rfl⟩
 have Ef:Hid (∀w1,Below w.heap.size w w1->w1.cell? ⟨c.c,2,none⟩=some (.slice (some ⟨rb,0,none⟩) c.pg.length cap)/\w1.cell? ⟨rb,k*2,none⟩=some (.pointer (some ⟨x.1.b,0,none⟩))/\w1.cell? ⟨rb,k*2+1,none⟩=some (.int .i64 ((1024*x.2:Nat):Int)) /\
   Calls prog 127 #[.pointer (some ⟨x.1.b,0,none⟩),.bool false,.slice (some ⟨w1.heap.size+1,0,none⟩) 1 1] ((w1.alloc (.cells #[.pointer (some ⟨x.1.b,0,none⟩),.int .i64 ((1024*x.2:Nat):Int)] 236)).alloc (.cells #[.int .i64 i] 3)) fun r w4=>r=.returned (.int .i64 1) /\
    w4.cell? ⟨w1.heap.size,0,none⟩=some (.pointer (some ⟨x.1.b,0,none⟩)) /\
    Calls prog 144 #[.pointer (some ⟨x.1.b,0,none⟩)] w4 (fun r w5=>r=.returned (.int .i64 (cntB (x.1.bits.set i false)))/\w4=w5)/\J0B c k i x w (.returned (.int .i64 0)) w4):=fun w1 hb=>by
  have s1:=(h.grown hb).sep;have BY:=CA.sepR s1;rw[A6] at BY;obtain⟨e1,e2⟩:=Q2c _ _ _ hx;have BF:=(CA.sepC s1).cell 2 _ rfl;rw[A6] at BF;refine⟨BF,Q0G BY _ _ e1,Q0G BY _ _ e2,?_⟩;have s3:=(s1.alloc (.cells #[.pointer (some ⟨x.1.b,0,none⟩),.int .i64 ((1024*x.2:Nat):Int)] 236)).alloc (.cells #[.int .i64 i] 3);have sb:=CA.sepB s3 k x hx;have Ab:∀b∈keys x.1.hl,b<w1.heap.size:=fun b AJ=>(CA.sepB s1 k x hx).lt AJ
  have hz:((w1.alloc (.cells #[.pointer (some ⟨x.1.b,0,none⟩),.int .i64 ((1024*x.2:Nat):Int)] 236))).heap.size=w1.heap.size+1:=by simp
  have Ba:=Q2C sb false i C4 Gp (by rw[hi];simp) (w1.heap.size+1) (by
   have:=(Cells.new (w1.alloc (.cells #[.pointer (some ⟨x.1.b,0,none⟩),.int .i64 ((1024*x.2:Nat):Int)] 236)) 3 [.int .i64 i]).cell 0 _ rfl;rw[hz] at this;exact this) (fun hm=>by have:=Ab _ hm;omega)
  refine Ba.mono ?_;rintro r w4⟨rfl,Ap⟩;have Bj:=CA.turnB s3 k x hx {x.1 with bits:=x.1.bits.set i false} rfl Ap;refine⟨rfl,?_,Q5U Ap.sep (by simpa using Gp),rfl,(h.grown hb).trans Bj.from_alloc.from_alloc⟩;have hn:w1.heap.size∉keys x.1.hl:=fun hm=>by have:=Ab _ hm;omega
  have AJ:=Ap.chg.block w1.heap.size (by simp;omega) hn;have P9:=((Cells.new w1 236 [.pointer (some ⟨x.1.b,0,none⟩),.int .i64 ((1024*x.2:Nat):Int)]).alloc (.cells #[.int .i64 i] 3)).cell 0 _ rfl;have:w4.cell? ⟨w1.heap.size,0,none⟩=((w1.alloc (.cells #[.pointer (some ⟨x.1.b,0,none⟩),.int .i64 ((1024*x.2:Nat):Int)] 236)).alloc (.cells #[.int .i64 i] 3)).cell? ⟨w1.heap.size,0,none⟩:=by simp only[World.cell?,AJ]
  rw[this];exact P9
 have HQ:Hid (∀r w',Told w (Q4Z (some (k,i))) r w'->r=.returned (.tuple #[.int .i64 k,.int .i64 i,.bool true])/\Below w.heap.size w w'):=fun r w' ⟨e,hb⟩=>⟨e,hb⟩
 have Bz:(0:Int)<=k:=by omega
 have Dm:(k:Int)<c.pg.length:=by omega
 have BJ:(0:Int)<=i:=by omega
 have J3:(i:Int)<1048576:=by omega
 have Ks:((cntB (x.1.bits.set i false):Int)==0)=false:=by simpa using Cd
 clear h ok hs hx hi C4 GQ Gp A6 Cd;generalize cntB (x.1.bits.set i false)=cnt at *
 generalize c.pg.length=np at *
 generalize 1024*x.2=pv at *
 obtain⟨GL,LD⟩:∃GL:Ending->World->Prop,GL=J0B c k i x w:=⟨_,rfl⟩
 rw[<- LD] at Ef ⊢;clear LD;generalize x.1.b=b at *
 generalize c.c=cc at *
 go_enter func77,ntmps77;go_wp2_with fail;refine k1.mono ?_;rintro r w1 hf;obtain⟨rfl,hb⟩:=HQ.out _ _ hf;obtain⟨c1,c2,c3,Ba⟩:=Ef.out _ hb;have CI:=Q0a Ba;clear Ba hf hb;go_wp2_with fail;refine CI.out.mono ?_;rintro r w4⟨rfl,d1,d2,d3⟩;have HG:=Q0a d3;have HC:=Q0a d2;clear d2 d3;go_wp2_with fail;refine HC.out.mono ?_;rintro r w5⟨rfl,rfl⟩;go_wp2_with fail;exact HG.out
theorem Q8M(pg:List (BM×Nat))(k:Nat)(hk:k<pg.length):Q0i (pg.eraseIdx k)=(Q0i pg).take (k*2)++(Q0i pg).drop (k*2+2):=by
 induction pg generalizing k with
 | nil=>simp at hk
 | cons y r ih =>
  cases k with
  | zero=>rfl
  | succ k =>
   have e:=ih k (by simpa using hk);show _::_::Q0i (r.eraseIdx k)=_;rw[e,show(k+1)*2=k*2+1+1 by omega,show k*2+1+1+2=k*2+2+1+1 by omega];rfl
theorem Z4X(pg:List (BM×Nat))(k:Nat):(pgH (pg.eraseIdx k)).Sublist (pgH pg):=by
 induction pg generalizing k with
 | nil=>simp[pgH]
 | cons y r ih =>
  cases k with
  | zero=>exact J3S _ _
  | succ k=>exact J5g (J5h _) (ih k)
def CA.dropPg(c:CA)(k:Nat):CA:={c with pg:=c.pg.eraseIdx k}
theorem CA.ok_drop{c:CA}(ok:c.Ok)(k:Nat)(hk:k<c.pg.length):(c.dropPg k).Ok:=by
 have BN:(c.pg.eraseIdx k).Sublist c.pg:=J5L _ _;have Ac:(c.pg.eraseIdx k).length=c.pg.length-1:=by rw[List.length_eraseIdx,if_pos hk]
 refine⟨?_,ok.s0,ok.s1,ok.sorted.sublist BN,fun x hx=>ok.lt x (BN.subset hx),fun x hx=>ok.many x (BN.subset hx),by have:=ok.len;show(c.pg.eraseIdx k).length<=_;omega⟩;show rvOk c.rv (c.pg.eraseIdx k).length;have:=ok.rv;cases A6:c.rv with
 | none=>rw[A6] at this;have:c.pg.length=0:=this;omega
 | some p=>rw[A6] at this;exact⟨by have:=this.1;omega,this.2⟩
theorem CA.dropStep{w w1:World}{c:CA}{g cap:Nat}(h:Sep w c.hl)(A6:c.rv=some (g,cap))(k n:Nat)(hk:k<c.pg.length)(hn:c.pg.length=n+1)(hd:DelP g cap n ((Q0i c.pg).take (k*2)++(Q0i c.pg).drop (k*2+2)) w (.returned (.slice (some ⟨g,0,none⟩) n cap)) w1) :
  Step c.hl (c.dropPg k).hl w (w1.setCell ⟨c.c,2,none⟩ (.slice (some ⟨g,0,none⟩) n cap)):=by
 obtain⟨_,q1,q2⟩:=hd;have Ac:(c.pg.eraseIdx k).length=n:=by rw[List.length_eraseIdx,if_pos hk];omega
 have e0:c.hl=[(c.c,isC 233 [ptr c.bb,.int .i64 c.size,lvOf c.rv c.pg.length])]++rowH c.rv 236 2 (Q0i c.pg)++pgH c.pg:=by unfold CA.hl;simp
 rw[e0] at h;have hb:(Value.slice (some ⟨g,0,none⟩) n cap).ownBlock=(lvOf c.rv c.pg.length).ownBlock∨(Value.slice (some ⟨g,0,none⟩) n cap).ownBlock=some w.heap.size:=.inl (by rw[A6];rfl);have hg:w.grownBy w1 (lvOf c.rv c.pg.length).ownBlock:=by rw[A6];exact q2
 obtain⟨rv',f1,f2,f3⟩:=Q1p h q1 hg hb;have CB:rv'=c.rv:=by
  cases rv' with
  | none=>cases f1
  | some p =>
   obtain⟨g',BG⟩:=p;unfold lvOf at f1;cases f1;exact A6.symm
 subst CB;have s2:Step _ _ w1 _:=Sep.set (A:=[]) (b:=c.c) (T:=233) (cs:=[ptr c.bb,.int .i64 c.size,lvOf c.rv c.pg.length]) (B:=rowH c.rv 236 2 ((Q0i c.pg).take (k*2)++(Q0i c.pg).drop (k*2+2))++pgH c.pg) (by simpa using f3.sep) 2 (.slice (some ⟨g,0,none⟩) n cap);have f3':Step c.hl ([]++(c.c,isC 233 [ptr c.bb,.int .i64 c.size,lvOf c.rv c.pg.length])::(rowH c.rv 236 2 ((Q0i c.pg).take (k*2)++(Q0i c.pg).drop (k*2+2))++pgH c.pg)) w w1:=by
  rw[e0];simpa using f3
 refine(f3'.trans s2).drop ?_;unfold CA.hl CA.dropPg;simp only[J5m,J5M,J5N];rw[Q8M _ _ hk,Ac,A6];exact List.Sublist.cons_cons _ (J5g (J5h _) (Z4X _ _))
def Q3e(pg:List (BM×Nat))(y:BM×Nat):List (BM×Nat):=pg.take (Q0r pg y.2)++y::pg.drop (Q0r pg y.2)
theorem Q8d(a b:List (BM×Nat)):Q0i (a++b)=Q0i a++Q0i b:=by simp[Q0i]
theorem Z0u(pg:List (BM×Nat))(j:Nat):Q0i (pg.take j)=(Q0i pg).take (j*2):=by
 induction pg generalizing j with
 | nil=>simp[Q0i]
 | cons y r ih =>
  cases j with
  | zero=>simp[Q0i]
  | succ j =>
   show _::_::Q0i (r.take j)=_;rw[ih,show(j+1)*2=j*2+1+1 by omega];rfl
theorem Z0v(pg:List (BM×Nat))(j:Nat):Q0i (pg.drop j)=(Q0i pg).drop (j*2):=by
 induction pg generalizing j with
 | nil=>simp[Q0i]
 | cons y r ih =>
  cases j with
  | zero=>simp
  | succ j =>
   show Q0i (r.drop j)=_;rw[ih,show(j+1)*2=j*2+1+1 by omega];rfl
theorem Z2Q(pg:List (BM×Nat))(y:BM×Nat):Q0i (Q3e pg y)=(Q0i pg).take (Q0r pg y.2*2)++[ptr y.1.b,.int .i64 ((1024*y.2:Nat):Int)]++(Q0i pg).drop (Q0r pg y.2*2):=by
 unfold Q3e;rw[Q8d,Z0u];show _++([ptr y.1.b,.int .i64 ((1024*y.2:Nat):Int)]++Q0i (pg.drop _))=_;rw[Z0v,J4c]
theorem J0C(pg:List (BM×Nat))(y:BM×Nat):(y.1.hl++pgH pg).Perm (pgH (Q3e pg y)):=by
 unfold Q3e pgH;rw[J3K,J3z];have e:pg.flatMap (fun x=>x.1.hl)=(pg.take (Q0r pg y.2)).flatMap (fun x=>x.1.hl)++(pg.drop (Q0r pg y.2)).flatMap (fun x=>x.1.hl):=by
  rw[<- J3K,J4b]
 rw[e,<- J4c,<- J4c];exact J5O _ J5P
theorem insPg_len(pg:List (BM×Nat))(y:BM×Nat):(Q3e pg y).length=pg.length+1:=by
 unfold Q3e;simp only[J3M,J3N,J5v,J5u];omega
theorem mem_insPg{pg:List (BM×Nat)}{y z:BM×Nat}:z∈Q3e pg y↔z=y∨z∈pg:=by
 unfold Q3e;have:z∈pg↔z∈pg.take (Q0r pg y.2)∨z∈pg.drop (Q0r pg y.2):=by rw[<- J3Q,J4b]
 rw[this];simp only[J3Q,J3g]
 constructor
 ·rintro(h|h|h)
  ·exact .inr (.inl h)
  ·exact .inl h
  ·exact .inr (.inr h)
 ·rintro(h|h|h)
  ·exact .inr (.inl h)
  ·exact .inl h
  ·exact .inr (.inr h)
theorem Q7m{pg:List (BM×Nat)}(hs:pg.Pairwise (fun a b=>a.2<b.2))(y:BM×Nat)(hn:∀x∈pg,x.2≠y.2):(Q3e pg y).Pairwise (fun a b=>a.2<b.2):=by
 have R4:∀x∈pg.take (Q0r pg y.2),x.2<y.2:=fun x hx=>by
  obtain⟨k,hk⟩:=J5Q.1 hx;rw[J5f] at hk;split at hk
  ·rename_i Ab;exact(Q4u hs y.2 k x hk).1 Ab
  ·cases hk
 have PS:∀x∈pg.drop (Q0r pg y.2),y.2<x.2:=fun x hx=>by
  obtain⟨k,hk⟩:=J5Q.1 hx;rw[J5E] at hk;have h1:=Q4u hs y.2 _ x hk;have h2:=hn x (J5q hk);have h3:¬x.2<y.2:=fun e=>by have:=h1.2 e;omega
  omega
 unfold Q3e;rw[J3P];refine⟨hs.sublist (List.take_sublist _ _),J3D.2 ⟨fun x hx=>PS x hx,hs.sublist (List.drop_sublist _ _)⟩,fun a ha b hb=>?_⟩;rcases J3g.1 hb with rfl|hb
 ·exact R4 a ha
 ·exact Nat.lt_trans (R4 a ha) (PS b hb)
def CA.insert(c:CA)(rv':RV)(y:BM×Nat):CA:={c with rv:=rv',pg:=Q3e c.pg y}
theorem CA.ok_ins{c:CA}(ok:c.Ok)(rv':RV)(y:BM×Nat)(hn:∀x∈c.pg,x.2≠y.2)(hr:rvOk rv' (c.pg.length+1))(hl:c.pg.length<1048576)(hy:y.2<1048576)(hb:y.1.bits.length=960/c.size):(c.insert rv' y).Ok:=by
 refine⟨?_,ok.s0,ok.s1,Q7m ok.sorted y hn,fun x hx=>?_,fun x hx=>?_,?_⟩
 ·show rvOk rv' (Q3e c.pg y).length;rw[insPg_len];exact hr
 ·rcases mem_insPg.1 hx with rfl|h
  ·exact hy
  ·exact ok.lt x h
 ·rcases mem_insPg.1 hx with rfl|h
  ·exact hb
  ·exact ok.many x h
 ·show(Q3e c.pg y).length<=_;rw[insPg_len];omega
theorem CA.insStep {w w1:World} {c:CA} {K:HL} (y:BM×Nat) (rv':RV) (h:Sep w (c.hl++(y.1.hl++K))) (Ap:Step ([(c.c,isC 233 [ptr c.bb,.int .i64 c.size,lvOf c.rv c.pg.length])]++rowH c.rv 236 2 (Q0i c.pg)++(pgH c.pg++(y.1.hl++K)))
   ([(c.c,isC 233 [ptr c.bb,.int .i64 c.size,lvOf c.rv c.pg.length])]++rowH rv' 236 2 ((Q0i c.pg).take (Q0r c.pg y.2*2)++[ptr y.1.b,.int .i64 ((1024*y.2:Nat):Int)]++(Q0i c.pg).drop (Q0r c.pg y.2*2))++(pgH c.pg++(y.1.hl++K))) w w1) :
  Step (c.hl++(y.1.hl++K)) ((c.insert rv' y).hl++K) w (w1.setCell ⟨c.c,2,none⟩ (lvOf rv' (c.pg.length+1))):=by
 rw[<- Z2Q] at Ap;have s2:Step _ _ w1 _:=Sep.set (A:=[]) (b:=c.c) (T:=233) (cs:=[ptr c.bb,.int .i64 c.size,lvOf c.rv c.pg.length]) (B:=rowH rv' 236 2 (Q0i (Q3e c.pg y))++(pgH c.pg++(y.1.hl++K))) (by simpa using Ap.sep) 2 (lvOf rv' (c.pg.length+1));have h3:=Step.trans (H1:=[]++(c.c,isC 233 [ptr c.bb,.int .i64 c.size,lvOf c.rv c.pg.length])::(rowH rv' 236 2 (Q0i (Q3e c.pg y))++(pgH c.pg++(y.1.hl++K)))) (by simpa using Ap) s2;refine h3.perm (.of_eq (by unfold CA.hl;simp)) ?_;unfold CA.hl CA.insert;simp only[J5m,J5M,J5N,insPg_len,J5n];refine List.Perm.cons _ ?_;rw[J4c];refine J5R _ ?_;rw[<- J4c]
 refine J5O _ ?_;exact J5P.trans (J0C c.pg y)
def Q3j(bits:List Bool):List Nat:=(List.range bits.length).filter fun i=>bits[i]?.getD false
theorem mem_trues{bits:List Bool}{i:Nat}:i∈Q3j bits↔bits[i]?.getD false=true:=by
 unfold Q3j;rw[J3w,J3s]
 constructor
 ·exact fun h=>h.2
 ·intro h;refine⟨?_,h⟩;rcases J5K i bits.length with e|e
  ·exact e
  ·rw[J4R e] at h;cases h
theorem Q5q(bits:List Bool):(Q3j bits).Pairwise (·<·):=J3v.filter _
theorem Q7n(f:Nat->Bool):∀n,((List.range n).filter f).length=cnt f n
 | 0=>rfl
 | n+1=>by
  rw[J3m,J4Z,J3M,Q7n f n];show _=cnt f n+(f n).toNat;cases h:f n <;> simp[h]
theorem Q5X(bits:List Bool):(Q3j bits).length=cntB bits:=by
 unfold Q3j;rw[Q7n,Z1F bits _ (J3b _)]
def Q1q(size:Nat)(x:BM×Nat):List Nat:=(Q3j x.1.bits).map (addr size x.2)
def CA.used(c:CA):List Nat:=c.pg.flatMap (Q1q c.size)
theorem mem_used{c:CA}{a:Nat}:a∈c.used↔∃x∈c.pg,∃i,x.1.bits[i]?.getD false=true/\a=addr c.size x.2 i:=by
 unfold CA.used Q1q;rw[J3C]
 constructor
 ·rintro⟨x,hx,ha⟩;obtain⟨i,hi,rfl⟩:=J3h.1 ha;exact⟨x,hx,i,mem_trues.1 hi,rfl⟩
 ·rintro⟨x,hx,i,hi,rfl⟩;exact⟨x,hx,J3h.2 ⟨i,mem_trues.2 hi,rfl⟩⟩
theorem Q5Y{bits:List Bool}{i:Nat}(hi:i<bits.length)(h:bits[i]?.getD false=false):∃A B,Q3j bits=A++B/\Q3j (bits.set i true)=A++i::B:=by
 have e:List.range bits.length=List.range i++i::(List.range (bits.length-(i+1))).map (·+(i+1)):=by
  obtain⟨d,hd⟩:∃d,bits.length=i+(1+d):=⟨bits.length-(i+1),by omega⟩
  rw[hd,show i+(1+d)-(i+1)=d by omega,List.range_add,List.range_add];simp[Function.comp_def,Nat.add_comm,Nat.add_left_comm]
 unfold Q3j;rw[J4O,e,J4Z,J4Z];refine⟨_,_,rfl,?_⟩;congr 1
 ·apply J5S
  intro j hj;rw[J3s] at hj;rw[Q1N _ _ hi,if_neg (by omega)]
 ·rw[J5o (by rw[Q1N _ _ hi];simp),J5p (by rw[h];simp)];congr 1
  apply J5S
  intro j hj;obtain⟨t,_,rfl⟩:=J3h.1 hj;rw[Q1N _ _ hi,if_neg (by omega)]
theorem Q8N{bits:List Bool}{i:Nat}(h:bits[i]?.getD false=true):∃A B,Q3j bits=A++i::B/\Q3j (bits.set i false)=A++B:=by
 have hi:i<bits.length:=by
  rcases J5K i bits.length with e|e
  ·exact e
  ·rw[J4R e] at h;cases h
 obtain⟨A,B,e1,e2⟩:=Q5Y (bits:=bits.set i false) (i:=i) (by simpa using hi) (by simp[hi]);rw[J5T,show bits.set i true=bits from ?_] at e2
 ·exact⟨A,B,e2,e1⟩
 ·apply J4K
  intro j;rw[J4J];split
  ·rename_i e;subst e;rw[J5t hi] at h ⊢;simp only[J5U] at h;simp[h]
  ·rfl
theorem Q5r{α β:Type}(f:α->List β)(L:List α)(k:Nat):L.flatMap f=(L.take k).flatMap f++(L.drop k).flatMap f:=by
 rw[<- J3K,J4b]
theorem Z2R{α β:Type}(f:α->List β)(L:List α)(k:Nat)(x:α)(h:L[k]?=some x):L.flatMap f=(L.take k).flatMap f++(f x++(L.drop (k+1)).flatMap f):=by
 rw[Q5r f L k];have hk:=J3t.1 h;rw[J5V hk.1,J3z,hk.2]
theorem Z4Y{α β:Type}(f:α->List β)(L:List α)(k:Nat)(y:α)(hk:k<L.length):(L.set k y).flatMap f=(L.take k).flatMap f++(f y++(L.drop (k+1)).flatMap f):=by
 rw[Z2R f (L.set k y) k y (by simp[hk]),J4d (J3b k),J4e (by omega)]
theorem Z8g{α β:Type}(f:α->List β)(L:List α)(k:Nat):(L.eraseIdx k).flatMap f=(L.take k).flatMap f++(L.drop (k+1)).flatMap f:=by
 rw[J5W,J3K]
theorem Z8h{c:CA}{k i:Nat}{x:BM×Nat}(hx:c.pg[k]?=some x)(hi:i<x.1.bits.length)(h:x.1.bits[i]?.getD false=false) :
  ∃A B,c.used=A++B/\(c.pageTo k x {x.1 with bits:=x.1.bits.set i true}).used=A++addr c.size x.2 i::B:=by
 obtain⟨A,B,e1,e2⟩:=Q5Y hi h;have hk:=(J3t.1 hx).1;refine⟨(c.pg.take k).flatMap (Q1q c.size)++A.map (addr c.size x.2),B.map (addr c.size x.2)++(c.pg.drop (k+1)).flatMap (Q1q c.size),?_,?_⟩
 ·unfold CA.used;rw[Z2R _ _ _ _ hx];simp[Q1q,e1]
 ·unfold CA.used CA.pageTo;rw[Z4Y _ _ _ _ hk];simp[Q1q,e2]
theorem Z8i{c:CA}{k i:Nat}{x:BM×Nat}(hx:c.pg[k]?=some x)(h:x.1.bits[i]?.getD false=true) :
  ∃A B,c.used=A++addr c.size x.2 i::B/\(c.pageTo k x {x.1 with bits:=x.1.bits.set i false}).used=A++B:=by
 obtain⟨A,B,e1,e2⟩:=Q8N h;have hk:=(J3t.1 hx).1;refine⟨(c.pg.take k).flatMap (Q1q c.size)++A.map (addr c.size x.2),B.map (addr c.size x.2)++(c.pg.drop (k+1)).flatMap (Q1q c.size),?_,?_⟩
 ·unfold CA.used;rw[Z2R _ _ _ _ hx];simp[Q1q,e1]
 ·unfold CA.used CA.pageTo;rw[Z4Y _ _ _ _ hk];simp[Q1q,e2]
theorem Z4Z(n:Nat)(h:0<n):Q3j ((List.replicate n false).set 0 true)=[0]:=by
 obtain⟨A,B,e1,e2⟩:=Q5Y (bits:=List.replicate n false) (i:=0) (by simpa using h) (by simp[List.getElem?_replicate];split <;> rfl);have e0:Q3j (List.replicate n false)=[]:=by
  unfold Q3j;rw[J5c];intro j _;rw[J5d];split <;> simp
 rw[e0] at e1;obtain⟨rfl,rfl⟩:=J5X.1 e1.symm;exact e2
theorem Z8j{c:CA}(rv':RV)(m:BM)(p n:Nat)(hn:0<n)(hm:m.bits=(List.replicate n false).set 0 true):∃A B,c.used=A++B/\(c.insert rv' (m,p)).used=A++addr c.size p 0::B:=by
 refine⟨_,_,Q5r (Q1q c.size) c.pg (Q0r c.pg p),?_⟩;unfold CA.used CA.insert Q3e;rw[J3K,J3z];congr 1;simp only[Q1q];rw[hm,Z4Z n hn];rfl
theorem Z5a{c:CA}{k i:Nat}{x:BM×Nat}(hx:c.pg[k]?=some x)(h:x.1.bits[i]?.getD false=true)(h0:cntB (x.1.bits.set i false)=0) :
  ∃A B,c.used=A++addr c.size x.2 i::B/\(c.dropPg k).used=A++B:=by
 obtain⟨A,B,e1,e2⟩:=Q8N h;have e3:=Q5X (x.1.bits.set i false);rw[h0,e2] at e3;have e4:A++B=[]:=J5s e3;obtain⟨rfl,rfl⟩:=J5X.1 e4;refine⟨(c.pg.take k).flatMap (Q1q c.size),(c.pg.drop (k+1)).flatMap (Q1q c.size),?_,?_⟩
 ·unfold CA.used;rw[Z2R _ _ _ _ hx];simp[Q1q,e1]
 ·unfold CA.used CA.dropPg;rw[Z8g]
theorem Q4v{s i n:Nat}(hs:0<s)(hi:i<n)(hn:n=960/s):i*s+s<=960:=by
 subst hn;have:(i+1)*s<=960/s*s:=J5Y s hi;have h2:=Nat.div_mul_le_self 960 s;rw[J5Z,Nat.one_mul] at this;omega
theorem Z2S{s p i:Nat}(hs:0<s)(h:i*s+s<=960):addr s p i/1024=p/\addr s p i%1024=64+i*s/\(addr s p i%1024-64)%s=0/\(addr s p i%1024-64)/s=i:=by
 have e:addr s p i=64+i*s+p*1024:=by unfold addr;omega
 have h1:addr s p i/1024=p:=by rw[e];omega
 have h2:addr s p i%1024=64+i*s:=by rw[e];omega
 refine⟨h1,h2,?_,?_⟩
 ·rw[h2,J6a,Nat.mul_mod_left]
 ·rw[h2,J6a,J6b _ hs]
theorem Q8O{c:CA}{a k i:Nat}(h:Q5w c a=some (k,i)):∃x,c.pg[k]?=some x/\x.1.bits[i]?.getD false=true/\a=addr c.size x.2 i:=by
 unfold Q5w at h;split at h
 ·cases h
 ·rename_i x hx;split at h
  ·rename_i hc;obtain⟨h1,h2,h3,h4⟩:=hc;cases h;refine⟨x,hx,h4,?_⟩;have:=Nat.div_add_mod (a%1024-64) c.size;rw[h3,J3k,J6c] at this;unfold addr;rw[this,h1];omega
  ·cases h
theorem Z2T{pg:List (BM×Nat)}(hs:pg.Pairwise (fun a b=>a.2<b.2))(k:Nat)(x:BM×Nat)(hx:pg[k]?=some x):Q0r pg x.2=k:=by
 have h1:=Q4u hs x.2 k x hx;have hk:=(J3t.1 hx).1;have D1:=Q8b pg x.2;rcases J6d (Q0r pg x.2) k with h|h|h
 ·have hy:pg[Q0r pg x.2]?=some (pg[Q0r pg x.2]'(by omega)):=J5t (by omega);have h2:=Q4u hs x.2 _ _ hy;have h3:=J6e.1 hs (Q0r pg x.2) k (by omega) hk h;have h4:pg[k]=x:=(J3t.1 hx).2;rw[h4] at h3;have:=h2.2 h3;omega
 ·exact h
 ·have:=h1.1 h;omega
theorem Z5b{c:CA}(ok:c.Ok){k i:Nat}{x:BM×Nat}(hx:c.pg[k]?=some x)(h:x.1.bits[i]?.getD false=true):Q5w c (addr c.size x.2 i)=some (k,i):=by
 have DW:=ok.s0;have hi:i<x.1.bits.length:=by
  rcases J5K i x.1.bits.length with e|e
  ·exact e
  ·rw[J4R e] at h;cases h
 have hm:=ok.many x (J5q hx);have hp:=Q4v (s:=c.size) (by omega) hi hm;obtain⟨e1,e2,e3,e4⟩:=Z2S (p:=x.2) (by omega:0<c.size) hp;unfold Q5w;rw[e1,Z2T ok.sorted k x hx,hx];simp only[e3,e4,h];rw[if_pos ⟨trivial,by omega,trivial,trivial⟩]
theorem Z1I{c:CA}(ok:c.Ok)(a:Nat):(Q5w c a).isSome=decide (a∈c.used):=by
 cases hs:Q5w c a with
 | none =>
  symm
  simp only[J6f,decide_eq_false_iff_not];intro hm;obtain⟨x,hx,i,hi,rfl⟩:=mem_used.1 hm;obtain⟨k,hk⟩:=J5Q.1 hx;rw[Z5b ok hk hi] at hs;cases hs
 | some y =>
  obtain⟨k,i⟩:=y;obtain⟨x,hx,hb,rfl⟩:=Q8O hs
  symm
  simp only[Option.isSome_some,decide_eq_true_eq];exact mem_used.2 ⟨x,J5q hx,i,hb,rfl⟩
theorem Q8e{c:CA}(ok:c.Ok){a:Nat}(ha:a∈c.used):∃x∈c.pg,1024*x.2+64<=a/\a+c.size<=1024*x.2+1024:=by
 obtain⟨x,hx,i,hi,rfl⟩:=mem_used.1 ha;have DW:=ok.s0;have C4:i<x.1.bits.length:=by
  rcases J5K i x.1.bits.length with e|e
  ·exact e
  ·rw[J4R e] at hi;cases hi
 have hp:=Q4v (s:=c.size) (by omega) C4 (ok.many x hx);exact⟨x,hx,by unfold addr;omega,by unfold addr;omega⟩
def J0D(c:CA)(k i:Nat)(x:BM×Nat)(w:World)(r:Ending)(w':World):Prop:=r=.returned (.tuple #[.int .i64 ((addr c.size x.2 i:Nat):Int),.int .i64 0])/\Step c.hl (c.pageTo k x {x.1 with bits:=x.1.bits.set i true}).hl w w'
def Q3W(x:BM×Nat):Option Nat:=Q2f x.1.bits false 0
theorem Z8k{w:World}{c:CA}(h:Sep w c.hl)(ok:c.Ok)(k i:Nat)(x:BM×Nat)(hx:c.pg[k]?=some x)(hf:Q3W x=some i)(A3:∀j y,j<k->c.pg[j]?=some y->Q3W y=none) :
  Calls prog 69 #[.pointer (some ⟨c.c,0,none⟩)] w (J0D c k i x w):=by
 have hk:=(J3t.1 hx).1;obtain⟨C4,_,NO,_⟩:=Q1F hf;have CT:=ok.len;have Eh:∀y∈c.pg,y.1.bits.length<=60:=fun y hy=>by
  rw[ok.many y hy];have:=ok.s0;exact J3c (J6g this (by omega)) (by omega)
 have Tc:=Eh x (J5q hx);have VK:i<60:=J3d C4 (Eh x (J5q hx));obtain⟨rb,cap,A6⟩:∃rb cap,c.rv=some (rb,cap):=by
  cases e:c.rv with
  | none=>have:=ok.rv;rw[e] at this;have:c.pg.length=0:=this;omega
  | some p=>exact⟨p.1,p.2,rfl⟩
 have BF:w.cell? ⟨c.c,2,none⟩=some (.slice (some ⟨rb,0,none⟩) c.pg.length cap):=by
  have:=(CA.sepC h).cell 2 _ rfl;rw[A6] at this;exact this
 have CW:Hid (∀j y w1,c.pg[j]?=some y->Below w.heap.size w w1->w1.cell? ⟨rb,j*2,none⟩=some (.pointer (some ⟨y.1.b,0,none⟩))/\w1.cell? ⟨rb,j*2+1,none⟩=some (.int .i64 ((1024*y.2:Nat):Int)) /\
   Calls prog 72 #[.pointer (some ⟨y.1.b,0,none⟩),.bool false,.int .i64 0] (w1.alloc (.cells #[.pointer (some ⟨y.1.b,0,none⟩),.int .i64 ((1024*y.2:Nat):Int)] 236)) fun r w'=>r=.returned (.int .i64 (optI (Q3W y)))/\(w1.alloc (.cells #[.pointer (some ⟨y.1.b,0,none⟩),.int .i64 ((1024*y.2:Nat):Int)] 236))=w'):=fun j y w1 hy hb=>by
  have s1:=(h.grown hb).sep;have BY:=CA.sepR s1;rw[A6] at BY;obtain⟨e1,e2⟩:=Q2c _ _ _ hy;refine⟨Q0G BY _ _ e1,Q0G BY _ _ e2,?_⟩;have:=Eh y (J5q hy);exact Q4f (CA.sepB (s1.alloc _) j y hy) false 0 (by omega) (by omega)
 have Jl:Hid (∀w1,Below w.heap.size w w1 ->
   Calls prog 127 #[.pointer (some ⟨x.1.b,0,none⟩),.bool true,.slice (some ⟨w1.heap.size+1,0,none⟩) 1 1] ((w1.alloc (.cells #[.pointer (some ⟨x.1.b,0,none⟩),.int .i64 ((1024*x.2:Nat):Int)] 236)).alloc (.cells #[.int .i64 i] 3)) fun r w4=>r=.returned (.int .i64 1) /\
    w4.cell? ⟨w1.heap.size,0,none⟩=some (.pointer (some ⟨x.1.b,0,none⟩))/\w4.cell? ⟨w1.heap.size,1,none⟩=some (.int .i64 ((1024*x.2:Nat):Int)) /\
    Calls prog 128 #[.pointer (some ⟨c.c,0,none⟩),.agg #[.pointer (some ⟨x.1.b,0,none⟩),.int .i64 ((1024*x.2:Nat):Int)],.int .i64 i] w4 fun r w5=>r=.returned (.int .i64 ((addr c.size x.2 i:Nat):Int))/\J0D c k i x w (.returned (.tuple #[.int .i64 ((addr c.size x.2 i:Nat):Int),.int .i64 0])) w5):=fun w1 hb=>by
  have s1:=(h.grown hb).sep;have s3:=(s1.alloc (.cells #[.pointer (some ⟨x.1.b,0,none⟩),.int .i64 ((1024*x.2:Nat):Int)] 236)).alloc (.cells #[.int .i64 i] 3);have sb:=CA.sepB s3 k x hx;have Ab:∀b∈keys x.1.hl,b<w1.heap.size:=fun b AJ=>(CA.sepB s1 k x hx).lt AJ
  have hz:((w1.alloc (.cells #[.pointer (some ⟨x.1.b,0,none⟩),.int .i64 ((1024*x.2:Nat):Int)] 236))).heap.size=w1.heap.size+1:=by simp
  have Ba:=Q2C sb true i C4 (by omega) (by rw[NO];simp) (w1.heap.size+1) (by
   have:=(Cells.new (w1.alloc (.cells #[.pointer (some ⟨x.1.b,0,none⟩),.int .i64 ((1024*x.2:Nat):Int)] 236)) 3 [.int .i64 i]).cell 0 _ rfl;rw[hz] at this;exact this) (fun hm=>by have:=Ab _ hm;omega)
  refine Ba.mono ?_;rintro r w4⟨rfl,Ap⟩;have Bj:=CA.turnB s3 k x hx {x.1 with bits:=x.1.bits.set i true} rfl Ap;have AZ:=(h.grown hb).trans Bj.from_alloc.from_alloc;have Ec:w1.heap.size∉keys x.1.hl:=fun hm=>by have:=Ab _ hm;omega
  have AJ:=Ap.chg.block w1.heap.size (by simp;omega) Ec;have Bc:=((Cells.new w1 236 [.pointer (some ⟨x.1.b,0,none⟩),.int .i64 ((1024*x.2:Nat):Int)]).alloc (.cells #[.int .i64 i] 3))
  have d0:w4.cell? ⟨w1.heap.size,0,none⟩=some (.pointer (some ⟨x.1.b,0,none⟩)):=by simp only[World.cell?,AJ];exact Bc.cell 0 _ rfl
  have d1:w4.cell? ⟨w1.heap.size,1,none⟩=some (.int .i64 ((1024*x.2:Nat):Int)):=by simp only[World.cell?,AJ];exact Bc.cell 1 _ rfl
  have ok':=CA.ok_page ok k x hx {x.1 with bits:=x.1.bits.set i true} (by simp);have Gj:=Q8L AZ.sep ok' x.1.b x.2 i (ok.lt x (J5q hx)) (by omega);refine⟨rfl,d0,d1,Gj.mono ?_⟩;rintro r w5⟨rfl,AD⟩;exact⟨rfl,rfl,AZ.trans (AZ.sep.grown AD)⟩
 have Dr:Hid (∀j,j<c.pg.length->∃y,c.pg[j]?=some y):=fun j hj=>⟨_,J5t hj⟩
 have GM:=Q0a A3;have HX:=Q0a hx;have HF:=Q0a hf;clear h ok hx hf A3 C4 NO Eh Tc A6;generalize GV:c.pg=pg at *
 generalize pg.length=np at *
 clear GV;obtain⟨TA,Rs⟩:∃TA:Ending->World->Prop,TA=J0D c k i x w:=⟨_,rfl⟩
 rw[<- Rs] at Jl ⊢;clear Rs;generalize addr c.size x.2 i=ad at *
 generalize c.c=cc at *
 go_enter func69,ntmps69;go_wp2_with fail
 go_loopw [19] (fun jv wr=>∃j:Nat,jv=.int .i64 j/\j<=k/\Below w.heap.size w wr) (fun jv _=>k+1-(intOf jv).toNat)
 case atStart=>exact⟨0,rfl,J5e _,Below.refl _ _⟩
 case round =>
  obtain⟨j,rfl,hj,hb⟩:=hrel;obtain⟨y,hy⟩:=Dr.out j (by omega);obtain⟨c1,c2,AP⟩:=CW.out j y wr hy hb;have Fw:(0:Int)<=j:=by omega
  have NM:(j:Int)<np:=by omega
  have SR:(j:Int)<1048577:=by omega
  by_cases Ab:j<k
  ·rw[GM.out j y Ab hy] at AP;unfold optI at AP;have Dw:=Q0a AP;have HB:=Q0a (((hb.alloc (by exact hb.size) (.cells #[.pointer (some ⟨y.1.b,0,none⟩),.int .i64 ((1024*y.2:Nat):Int)] 236))));clear AP hy;generalize 1024*y.2=pv at *
   go_wp2_with (go_at_call 72;refine Dw.out.mono ?_;rintro e w'⟨rfl,rfl⟩);go_roundw
   case rel=>exact⟨j+1,by go_num,by omega,HB.out⟩
   case measure=>simp[intOf];omega
  ·obtain rfl:j=k:=by omega
   rw[HX.out] at hy;cases hy;rw[HF.out] at AP;unfold optI at AP;have Dw:=Q0a AP;have HT:=Q0a (Jl.out wr hb);have BJ:(0:Int)<=i:=by omega
   have J3:(i:Int)<60:=by omega
   have Jh:decide ((0:Int)<=(i:Int))=true:=by simp
   clear AP;generalize 1024*x.2=pv at *
   go_wp2_with (go_at_call 72;refine Dw.out.mono ?_;rintro e w'⟨rfl,rfl⟩);refine HT.out.mono ?_;rintro r w4⟨rfl,d0,d1,Gj⟩;have HP:=Q0a Gj;clear Gj;go_wp2_with fail;refine HP.out.mono ?_;rintro r w5⟨rfl,Kn⟩;have OK:=Q0a Kn;clear Kn;go_wp2_with fail;exact OK.out
end Go.Proofs.YtfidemmgofcnmaaGreatDoor
namespace Go.Proofs.YtfidemmgofcnmaaGreatDoor
open Go.Proofs.Tryz
def clr(u:Nat->Bool)(k i:Nat):Bool:=(List.range (2 ^ k)).all fun j=>!u (i*2 ^ k+j)
theorem clr_iff(u:Nat->Bool)(k i:Nat):clr u k i=true↔∀p,p/2 ^ k=i->u p=false:=by
 unfold clr;rw[J6h];have hk:0<2 ^ k:=J4r k
 constructor
 ·intro h p hp;have:=h (p%2 ^ k) (J3s.2 (J6i _ hk));have e:i*2 ^ k+p%2 ^ k=p:=by
   rw[<- hp,J6c];exact Nat.div_add_mod p (2 ^ k)
  rw[e] at this;simpa using this
 ·intro h j hj;have AY:=J3s.1 hj;have:u (i*2 ^ k+j)=false:=h _ (by rw[J4l,J6j _ _ hk,Nat.div_eq_of_lt AY,J5G]);simp[this]
theorem Z1J(u:Nat->Bool)(p:Nat):clr u 0 p=!u p:=by simp[clr]
theorem div_succ(p k:Nat):p/2 ^ (k+1)=p/2 ^ k/2:=by rw[J4k,J4E]
theorem clr_half(u:Nat->Bool)(k i:Nat):clr u (k+1) i=(clr u k (2*i)&&clr u k (2*i+1)):=by
 rw[J6k,J3x,clr_iff,clr_iff,clr_iff]
 constructor
 ·intro h;exact⟨fun p hp=>h p (by rw[div_succ,hp];omega),fun p hp=>h p (by rw[div_succ,hp];omega)⟩
 ·rintro⟨h1,h2⟩ p hp;rw[div_succ] at hp;have:p/2 ^ k=2*i∨p/2 ^ k=2*i+1:=by omega
  rcases this with h|h
  ·exact h1 p h
  ·exact h2 p h
def fre(u:Nat->Bool)(top k i:Nat):Bool:=clr u k i&&(k==top||!clr u (k+1) (i/2))
def setU(u:Nat->Bool)(p:Nat)(b:Bool):Nat->Bool:=fun x=>if x=p then b else u x
theorem clr_set_true(u:Nat->Bool)(p k i:Nat):clr (setU u p true) k i=(clr u k i&&!(p/2 ^ k==i)):=by
 rw[J6k,J3x,clr_iff,clr_iff];simp only[J6l,beq_eq_false_iff_ne,setU]
 constructor
 ·intro h;refine⟨fun q hq=>?_,fun e=>?_⟩
  ·have:=h q hq;split at this
   ·cases this
   ·exact this
  ·have:=h p e;simp at this
 ·rintro⟨h1,h2⟩ q hq;rw[if_neg (fun e:q=p=>h2 (by rw[<- e];exact hq))];exact h1 q hq
theorem Q4w(u:Nat->Bool)(p k i:Nat)(h:p/2 ^ k≠i):clr (setU u p false) k i=clr u k i:=by
 rw[J6k,clr_iff,clr_iff]
 constructor
 ·intro a q hq;have:=a q hq;simp only[setU] at this;split at this
  ·rename_i e;subst e;exact absurd hq h
  ·exact this
 ·intro a q hq;simp only[setU];rw[if_neg (fun e:q=p=>h (by rw[<- e];exact hq))];exact a q hq
theorem Q5D{u:Nat->Bool}{k:Nat}(e:Nat){i:Nat}(h:clr u (k+e) (i/2 ^ e)=true):clr u k i=true:=by
 rw[clr_iff] at h ⊢;intro p hp;refine h p ?_;rw[J4D,<- J4E,hp]
def sib(i:Nat):Nat:=if i%2=0 then i+1 else i-1
theorem Q4x(i:Nat):sib i/2=i/2/\sib i≠i:=by unfold sib;split <;> omega
theorem J1X{x a:Nat}(h:x/2=a/2)(Aa:x≠a):x=sib a:=by unfold sib;split <;> omega
theorem Z1K(u:Nat->Bool)(top k p:Nat)(hk:k<=top)(h:fre u top k (p/2 ^ k)=true)(j x:Nat)(hj:j<=top) :
  fre (setU u p true) top j x=if j<k then(fre u top j x||(x==sib (p/2 ^ j))) else if j=k then(fre u top j x&&!(x==p/2 ^ k)) else fre u top j x:=by
 unfold fre at h;rw[J3x] at h;obtain⟨hc,hp⟩:=h;have above:∀m y,k<m->m<=top->clr u m y=true->p/2 ^ m≠y:=by
  intro m y hm Nr CR e;have Aa:(k==top)=false:=by simp;omega
  rw[Aa] at hp;simp only[J6m,J6l] at hp;have:clr u (k+1) (p/2 ^ k/2)=true:=by
   refine Q5D (m-(k+1)) ?_;rw[show k+1+(m-(k+1))=m from by omega,<- div_succ,J4E,<- J4D,show k+1+(m-(k+1))=m from by omega,e];exact CR
  rw[this] at hp;cases hp
 have same:∀m y,k<m->m<=top->clr (setU u p true) m y=clr u m y:=by
  intro m y hm Nr;rw[clr_set_true];cases CR:clr u m y with
  | false=>rfl
  | true=>simp[above m y hm Nr CR]
 by_cases h1:j<k
 ·rw[if_pos h1];have Ua:(j==top)=false:=by simp;omega
  have OX:p/2 ^ j/2 ^ (k-j)=p/2 ^ k:=by rw[J4E,<- J4D,show j+(k-j)=k from by omega]
  unfold fre;rw[clr_set_true,clr_set_true,div_succ,Ua];simp only[J6m];generalize hg:p/2 ^ j=a at *
  obtain⟨s1,s2⟩:=Q4x a;by_cases Cm:x/2 ^ (k-j)=p/2 ^ k
  ·have c1:clr u j x=true:=Q5D (k-j) (by rw[Cm,show j+(k-j)=k from by omega];exact hc);have c2:clr u (j+1) (x/2)=true:=by
    refine Q5D (k-(j+1)) ?_;have e3:x/2/2 ^ (k-(j+1))=x/2 ^ (k-j):=by
     rw[show k-j=(k-(j+1))+1 from by omega,J6n,J4E]
    rw[show j+1+(k-(j+1))=k from by omega,e3,Cm];exact hc
   rw[c1,c2];simp only[J4s,Bool.not_true,Bool.and_false,J6m,Bool.not_not];rw[J6k];simp only[J3x,J6l,beq_eq_false_iff_ne,beq_iff_eq]
   constructor
   ·rintro⟨e1,e2⟩;exact J1X e2.symm (fun e=>e1 e.symm)
   ·rintro rfl;exact⟨fun e=>s2 e.symm,s1.symm⟩
  ·have hx:x/2≠a/2:=by
    intro e;apply Cm;rw[<- OX,show k-j=(k-j-1)+1 from by omega,J6n,<- J4E,e,J4E]
   have e1:(a==x)=false:=by simp;omega
   have e2:(a/2==x/2)=false:=by simp;omega
   have e3:(x==sib a)=false:=by simp;rintro rfl;exact hx s1
   rw[e1,e2,e3];simp
 ·rw[if_neg h1];by_cases h2:j=k
  ·subst h2;rw[if_pos rfl];unfold fre;rw[clr_set_true,show(p/2 ^ j==x)=(x==p/2 ^ j) from BEq.comm];by_cases ht:j=top
   ·subst ht;simp
   ·rw[same (j+1) _ (by omega) (by omega)];cases clr u j x <;> cases (x==p/2 ^ j) <;> simp
  ·rw[if_neg h2];unfold fre;rw[same j x (by omega) hj];by_cases ht:j=top
   ·subst ht;simp
   ·rw[same (j+1) _ (by omega) (by omega)]
theorem Z5c(u:Nat->Bool)(top p:Nat)(h:u p=false):∃k,k<=top/\fre u top k (p/2 ^ k)=true:=by
 have key:∀n,n<=top->clr u n (p/2 ^ n)=true∨∃k,k<n/\fre u top k (p/2 ^ k)=true:=by
  intro n
  induction n with
  | zero=>intro _;left;rw[Z1J];simp[h]
  | succ n ih =>
   intro hn;rcases ih (by omega) with hc|⟨k,hk,hf⟩
   ·cases BF:clr u (n+1) (p/2 ^ (n+1)) with
    | true=>exact .inl rfl
    | false =>
     right;refine⟨n,by omega,?_⟩;unfold fre;rw[div_succ] at BF;rw[hc,BF];simp
   ·exact .inr ⟨k,by omega,hf⟩
 rcases key top (J3b _) with hc|⟨k,hk,hf⟩
 ·exact⟨top,J3b _,by unfold fre;rw[hc];simp⟩
 ·exact⟨k,by omega,hf⟩
theorem Q8P{u:Nat->Bool}{top k i p:Nat}(h:fre u top k i=true)(hp:p/2 ^ k=i):u p=false:=by
 unfold fre at h;rw[J3x] at h;exact(clr_iff u k i).1 h.1 p hp
theorem Q8Q{u:Nat->Bool}{top k i l j p:Nat}(hk:k<=top)(hl:l<=top)(h:fre u top k i=true)(h':fre u top l j=true)(hp:p/2 ^ k=i)(BH:p/2 ^ l=j):k=l/\i=j:=by
 have main:∀{k l:Nat},l<=top->fre u top k (p/2 ^ k)=true->fre u top l (p/2 ^ l)=true->¬k<l:=by
  intro k l hl h h' Ab;unfold fre at h h';rw[J3x] at h h';have Aa:(k==top)=false:=by simp;omega
  rw[Aa] at h;simp only[J6m,J6l] at h;have:clr u (k+1) (p/2 ^ k/2)=true:=by
   refine Q5D (l-(k+1)) ?_;rw[show k+1+(l-(k+1))=l from by omega,<- div_succ,J4E,<- J4D,show k+1+(l-(k+1))=l from by omega];exact h'.1
  rw[this] at h;cases h.2
 subst hp;subst BH;have:k=l:=Nat.le_antisymm (by have:=main hk h' h;omega) (by have:=main hl h h';omega);subst this;exact⟨rfl,rfl⟩
theorem Z5d{u:Nat->Bool}{p:Nat}(h:u p=true):setU (setU u p false) p true=u:=by
 funext x;unfold setU;split
 ·rename_i e;rw[e,h]
 ·rfl
theorem Z8l(u:Nat->Bool)(top p k:Nat)(hk:k<=top)(hu:u p=true)(hc:clr (setU u p false) k (p/2 ^ k)=true)(hn:k<top->clr u k (sib (p/2 ^ k))=false)(j x:Nat)(hj:j<=top) :
  fre (setU u p false) top j x=if j<k then(fre u top j x&&!(x==sib (p/2 ^ j))) else if j=k then(fre u top j x||(x==p/2 ^ k)) else fre u top j x:=by
 have hf:fre (setU u p false) top k (p/2 ^ k)=true:=by
  unfold fre;rw[hc,J4s,J6o];by_cases ht:k=top
  ·left;simp[ht]
  ·right;have h1:=hn (by omega);obtain⟨s1,s2⟩:=Q4x (p/2 ^ k);rw[clr_half,J6l,Bool.and_eq_false_iff];rw[<- Q4w u p k (sib (p/2 ^ k)) (fun e=>s2 e.symm)] at h1;have:sib (p/2 ^ k)=2*(p/2 ^ k/2)∨sib (p/2 ^ k)=2*(p/2 ^ k/2)+1:=by omega
   rcases this with e|e
   ·left;rw[<- e];exact h1
   ·right;rw[<- e];exact h1
 have main:=Z1K (setU u p false) top k p hk hf j x hj;rw[Z5d hu] at main;by_cases h1:j<k
 ·rw[if_pos h1] at main ⊢;rw[main];by_cases hx:x=sib (p/2 ^ j)
  ·obtain⟨s1,s2⟩:=Q4x (p/2 ^ j);have:fre (setU u p false) top j x=false:=by
    cases FW:fre (setU u p false) top j x with
    | false=>rfl
    | true =>
     have e1:x*2 ^ j/2 ^ j=x:=J6b _ (J4r j);have e2:x*2 ^ j/2 ^ k=p/2 ^ k:=by
      rw[show k=j+(k-j) from by omega,J4D,<- J4E,e1,<- J4E,show k-j=(k-j-1)+1 from by omega,J6n,<- J4E,<- J4E,hx,s1]
     have:=Q8Q hj hk FW hf e1 e2;omega
   rw[this];simp[hx]
  ·have e9:(x==sib (p/2 ^ j))=false:=by simpa using hx
   rw[e9];simp
 ·rw[if_neg h1] at main ⊢;by_cases h2:j=k
  ·subst h2;rw[if_pos rfl] at main ⊢;rw[main];by_cases hx:x=p/2 ^ j
   ·subst hx;rw[hf];simp
   ·have e9:(x==p/2 ^ j)=false:=by simpa using hx
    rw[e9];simp
  ·rw[if_neg h2] at main ⊢;exact main.symm
theorem Z8m(u:Nat->Bool)(top:Nat)(h:∀p,p<2 ^ top->u p=false)(k i:Nat)(hk:k<=top)(hi:i<2 ^ (top-k)):fre u top k i=decide (k=top):=by
 have hc:∀m y,m<=top->y<2 ^ (top-m)->clr u m y=true:=by
  intro m y hm hy;rw[clr_iff];intro p hp;refine h p ?_;have h1:p<(y+1)*2 ^ m:=by rw[<- hp];rw[J6c];exact Nat.lt_mul_div_succ p (J4r m)
  have h2:(y+1)*2 ^ m<=2 ^ (top-m)*2 ^ m:=J5Y _ hy;rw[<- J4D,show top-m+m=top from by omega] at h2;omega
 unfold fre;rw[hc k i hk hi];by_cases ht:k=top
 ·subst ht;simp
 ·have A2:i/2<2 ^ (top-(k+1)):=by
   rw[show top-k=top-(k+1)+1 from by omega,J4k] at hi;omega
  rw[hc (k+1) (i/2) (by omega) A2];simp[ht]
end Go.Proofs.YtfidemmgofcnmaaGreatDoor
