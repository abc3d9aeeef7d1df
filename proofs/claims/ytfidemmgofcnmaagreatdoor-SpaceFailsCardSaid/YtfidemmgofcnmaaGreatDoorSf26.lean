/- SpaceFails returns true at every input. No condition. Part of its proof. -/
import Derived.Test.YtfidemmgofcnmaaGreatDoorSf25
import Derived.RangeFuncWrites
import Derived.Maps.OwnIn
set_option maxHeartbeats 8000000
set_option maxRecDepth 100000
set_option linter.unusedVariables false
namespace Go.Proofs.YtfidemmgofcnmaaGreatDoor
open Go.RowKit Go.Proofs.Tryz
theorem Step.drewN{w w':World}{H H':HL}(h:Step H H' w w')(m:Nat):Step H H' w (w'.drewN m):=⟨h.sep.drewN m,⟨h.chg.os,h.chg.tape,h.chg.output,h.chg.size,h.chg.block⟩,h.new⟩
theorem Step.cons{w w':World}{p:Nat×(Obj->Prop)}{H H':HL}(h:Sep w (p::H))(s:Step H H' w w'):Step (p::H) (p::H') w w':=by
 have:=Step.frame [p] [] (by simpa using h) s
 simpa using this
def Q2p(g per now bx b0:Nat)(ts:List (Nat×Nat))(k j:Nat)(rv:OV)(ro:RV):HL:=
 qhl g per now rv (ts.drop k)++(bx,isC 185 [ptr g])::(b0,isC 38 [lvOf ro j])::rowH ro 3 1 (ints ((ts.take j).map Prod.fst))
def TickS(H0:HL)(w:World)(g per now bx b0:Nat)(ts:List (Nat×Nat))(k j:Nat)(W:World):Prop:=
 ∃rv ro,ovOk rv (ts.drop k).length/\rvOk ro j/\Step H0 (Q2p g per now bx b0 ts k j rv ro) w W
theorem TickS.drewN{H0:HL}{w W:World}{g per now bx b0:Nat}{ts:List (Nat×Nat)}{k j:Nat}(h:TickS H0 w g per now bx b0 ts k j W)(m:Nat):TickS H0 w g per now bx b0 ts k j (W.drewN m):=by
 obtain⟨rv,ro,h1,h2,h3⟩:=h;exact⟨rv,ro,h1,h2,h3.drewN m⟩
theorem Z1i(g per now bx b0:Nat)(ts:List (Nat×Nat))(k j:Nat)(rv:OV)(ro:RV):(g,isC 305 [.int .i64 per,.int .i64 now,ovOf rv (ts.drop k).length])∈Q2p g per now bx b0 ts k j rv ro:=by
 simp[Q2p,qhl]
theorem Q8z{ts:List (Nat×Nat)}{k:Nat}{x:Nat×Nat}(h:ts[k]?=some x):(ts.take (k+1)).map Prod.fst=(ts.take k).map Prod.fst++[x.1]:=by
 have hk:=J3t.1 h;rw[J7u hk.1,J6G,hk.2];rfl
theorem Z7i{ts:List (Nat×Nat)}{k:Nat}{x:Nat×Nat}(h:ts[k]?=some x):ts.drop k=x::ts.drop (k+1):=by
 have hk:=J3t.1 h;rw[J5V hk.1,hk.2]
theorem TickS.front{H0:HL}{w W:World}{g per now bx b0:Nat}{ts:List (Nat×Nat)}{k j:Nat}(h:TickS H0 w g per now bx b0 ts k j W){x:Nat×Nat}(hx:ts[k]?=some x)(hd:x.2<=now):J2t g now x.1 W (TickS H0 w g per now bx b0 ts (k+1) j):=by
 obtain⟨rv,ro,h1,h2,st⟩:=h;have FE:=Z7i hx;obtain⟨b,off,cap,rfl⟩:∃b off cap,rv=some (b,off,cap):=by
  cases rv with
  | none=>rw[FE] at h1;exact absurd h1 (by simp[ovOk])
  | some q=>exact⟨q.1,q.2.1,q.2.2,rfl⟩
 have hc:=st.sep.cells (Z1i g per now bx b0 ts k j (some (b,off,cap)) ro);have Ac:(ts.drop k).length=(ts.drop (k+1)).length+1:=by rw[FE];rfl
 rw[Ac] at h1 hc;obtain⟨n,hn⟩:∃n,n=(ts.drop (k+1)).length:=⟨_,rfl⟩
 have Qf:Q1l (ts.drop k)=[.int .i64 (x.1:Int),.int .i64 (x.2:Int)]++Q1l (ts.drop (k+1)):=by rw[FE];rfl
 -- the row ahead
 have e1:Q2p g per now bx b0 ts k j (some (b,off,cap)) ro=(g,isC 305 [.int .i64 per,.int .i64 now,ovOf (some (b,off,cap)) ((ts.drop (k+1)).length+1)])::(ovH (some (b,off,cap)) 331 2 ([.int .i64 (x.1:Int),.int .i64 (x.2:Int)]++Q1l (ts.drop (k+1)))++((bx,isC 185 [ptr g])::(b0,isC 38 [lvOf ro j])::rowH ro 3 1 (ints ((ts.take j).map Prod.fst)))):=by
  unfold Q2p qhl;rw[Ac,Qf];rfl
 rw[e1] at st;obtain⟨R,hR⟩:∃R:HL,R=((bx,isC 185 [ptr g])::(b0,isC 38 [lvOf ro j])::rowH ro 3 1 (ints ((ts.take j).map Prod.fst))):=⟨_,rfl⟩
 rw[<- hR] at st;have sR:=st.sep.tail;have cell:∀i v,([.int .i64 (x.1:Int),.int .i64 (x.2:Int)]++Q1l (ts.drop (k+1)))[i]?=some v->W.cell? ⟨b,off+i,none⟩=some v:=fun i v hv=>Z0C sR.left i v hv
 obtain⟨A4,I3⟩:=h1;refine⟨b,off,n,cap,x.2,?_,by omega,I3,cell 0 _ rfl,cell 1 _ rfl,hd,?_⟩
 ·rw[hn];exact hc.cell 2 _ rfl
 ·-- taken off
  have key:∀rv',Step (ovH (some (b,off,cap)) 331 2 ([.int .i64 (x.1:Int),.int .i64 (x.2:Int)]++Q1l (ts.drop (k+1)))++R) (ovH rv' 331 2 (Q1l (ts.drop (k+1)))++R) W W->ovOk rv' (ts.drop (k+1)).length ->
    TickS H0 w g per now bx b0 ts (k+1) j (W.setCell ⟨g,2,none⟩ (ovOf rv' (ts.drop (k+1)).length)):=fun rv' s Bg=>by
   have s2:=Step.cons st.sep s;have s23:=s2.trans (Sep.set (A:=[]) s2.sep 2 (ovOf rv' (ts.drop (k+1)).length));refine⟨rv',ro,Bg,h2,?_⟩;have:=st.trans s23;unfold Q2p qhl;rw[<- hR];exact this
  by_cases CM:cap=1
  ·subst CM;have h0:(ts.drop (k+1)).length=0:=by omega
   have BT:ts.drop (k+1)=[]:=J5s h0;have:=key (some (b,off,0)) (by
    rw[BT];have:=Z8D (w:=W) (B:=R) (g:=b) (off:=off) (T:=331) (size:=2) (x:=[.int .i64 (x.1:Int),.int .i64 (x.2:Int)]) (by rw[BT] at sR;simpa[Q1l] using sR)
    simpa[Q1l] using this) (by rw[h0];exact⟨J3b _,by unfold maxLen;omega⟩)
   rw[if_pos rfl,hn];exact this
  ·have:=key (some (b,off+2,cap-1)) (J0V sR rfl (by omega)) ⟨by omega,by omega⟩;rw[if_neg CM,hn];exact this
theorem TickS.late{H0:HL}{w W:World}{g per now bx b0:Nat}{ts:List (Nat×Nat)}{k j:Nat}(h:TickS H0 w g per now bx b0 ts k j W)(hd:∀x,ts[k]?=some x->now<x.2):Late g now W:=by
 obtain⟨rv,ro,h1,h2,st⟩:=h;have hc:=(st.sep.cells (Z1i g per now bx b0 ts k j rv ro)).cell 2 _ rfl;cases hx:ts[k]? with
 | none =>
  have hl:(ts.drop k).length=0:=by
   have:=List.getElem?_eq_none_iff.1 hx;rw[J5u];omega
  rw[hl] at hc;left;cases rv with
  | none=>exact⟨_,_,hc⟩
  | some q=>exact⟨_,_,hc⟩
 | some x =>
  right;have FE:=Z7i hx;obtain⟨b,off,cap,rfl⟩:∃b off cap,rv=some (b,off,cap):=by
   cases rv with
   | none=>rw[FE] at h1;exact absurd h1 (by simp[ovOk])
   | some q=>exact⟨q.1,q.2.1,q.2.2,rfl⟩
  have Ac:(ts.drop k).length=(ts.drop (k+1)).length+1:=by rw[FE];rfl
  rw[Ac] at hc;have Qf:Q1l (ts.drop k)=[.int .i64 (x.1:Int),.int .i64 (x.2:Int)]++Q1l (ts.drop (k+1)):=by rw[FE];rfl
  refine⟨b,off,_,cap,x.2,hc,?_,hd x hx⟩;have hs:Sep W (ovH (some (b,off,cap)) 331 2 (Q1l (ts.drop k))):=st.sep.sub (by
   unfold Q2p qhl;exact(J3R _ _).trans ((J5h _).trans (J3T _ _) |>.append_right _ |>.trans (J5h _)))
  exact Z0C hs 1 _ (by rw[Qf];rfl)
theorem TickS.row{H0:HL}{w W:World}{g per now bx b0:Nat}{ts:List (Nat×Nat)}{k:Nat}(h:TickS H0 w g per now bx b0 ts (k+1) k W){x:Nat×Nat}(hx:ts[k]?=some x)(o:Obj) :
  ∃v,W.cell? ⟨b0,0,none⟩=some v/\W.frozen? ⟨b0,0,none⟩=false/\(W.alloc o).ownsRow 0 3 1 v k (ints ((ts.take k).map Prod.fst))/\∀v' W1,W1.ownsRow 0 3 1 v' (k+1) (ints ((ts.take k).map Prod.fst)++[.int .i64 (x.1:Int)])->(W.alloc o).grownBy W1 v.ownBlock->(v'.ownBlock=v.ownBlock∨v'.ownBlock=some (W.alloc o).heap.size) ->
   (∃u,W1.cell? ⟨b0,0,none⟩=some u)/\W1.frozen? ⟨b0,0,none⟩=false/\TickS H0 w g per now bx b0 ts (k+1) (k+1) (W1.setCell ⟨b0,0,none⟩ v'):=by
 obtain⟨rv,ro,h1,h2,st⟩:=h;have hk:=(J3t.1 hx).1;have hc:=(st.sep.cells (b:=b0) (T:=38) (cs:=[lvOf ro k]) (by simp[Q2p]))
 have hl:(ints ((ts.take k).map Prod.fst)).length=k*1:=by simp[ints];omega
 have sA:=st.sep.alloc o;obtain⟨A,hA⟩:∃A:HL,A=qhl g per now rv (ts.drop (k+1))++[(bx,isC 185 [ptr g]),(b0,isC 38 [lvOf ro k])]:=⟨_,rfl⟩
 have e1:Q2p g per now bx b0 ts (k+1) k rv ro=A++rowH ro 3 1 (ints ((ts.take k).map Prod.fst))++[]:=by
  rw[hA];unfold Q2p;simp
 have Au:=Q4t ((e1 ▸ sA).left.right) h2 hl;refine⟨lvOf ro k,hc.cell 0 _ rfl,hc.free 0,Au,fun v' W1 ho hg hb=>?_⟩;obtain⟨ro',rfl,Dt,s2⟩:=Q1p (A:=A) (B:=[]) (e1 ▸ sA) ho hg hb;have BF:=s2.sep.cells (b:=b0) (T:=38) (cs:=[lvOf ro k]) (by rw[hA];simp);refine⟨⟨_,BF.cell 0 _ rfl⟩,BF.free 0,rv,ro',h1,Dt,?_⟩;have s1:Step H0 (A++rowH ro 3 1 (ints ((ts.take k).map Prod.fst))++[]) w (W.alloc o):=by
  rw[<- e1];exact st.trans (st.sep.grown ((Below.refl _ _).alloc (J3b _) o))
 have s12:=s1.trans s2;have s3:=Sep.set (A:=qhl g per now rv (ts.drop (k+1))++[(bx,isC 185 [ptr g])]) (b:=b0) (T:=38) (cs:=[lvOf ro k]) (B:=rowH ro' 3 1 (ints ((ts.take k).map Prod.fst)++[.int .i64 (x.1:Int)])) (by rw[hA] at s12;simpa using s12.sep) 0 (lvOf ro' (k+1));have s4:=(s12.perm (J6w _) (K':=qhl g per now rv (ts.drop (k+1))++[(bx,isC 185 [ptr g])]++(b0,isC 38 [lvOf ro k])::rowH ro' 3 1 (ints ((ts.take k).map Prod.fst)++[.int .i64 (x.1:Int)])) (by rw[hA];simp)).trans s3;have e5:ints ((ts.take (k+1)).map Prod.fst)=ints ((ts.take k).map Prod.fst)++[.int .i64 (x.1:Int)]:=by
  rw[Q8z hx];simp[ints]
 unfold Q2p;rw[e5]
 simpa using s4
def Bk(r:Loop)(D:Nat)(W:World):Prop:=W.heap[D+1]?=some (.loop r)/\W.heap[D]?=some (.deferred (some []))
theorem Bk.set{r:Loop}{D:Nat}{W:World}(h:Bk r D W){g:Nat}(hg:g<D)(i:Nat)(v:Value):Bk r D (W.setCell ⟨g,i,none⟩ v):=
 ⟨(Below.heap_setCell _ _ _ _ (fun e=>by have e':D+1=g:=e;omega)).trans h.1,(Below.heap_setCell _ _ _ _ (fun e=>by have e':D=g:=e;omega)).trans h.2⟩
theorem Z1j{F:Fence}{n:Nat}{P:Program}{g:Operand}{ps:Array Tmp}{assign body:Code}{Q:Exit->Act->World->Prop}{a:Act}{w:World}
  (Je:F.round=none) (h1:1<=n) {gf:Nat} {lb:Array Value} (hg:a.eval g=.func (.func gf) #[] lb) (hFg:F.fn gf) (eg:∀args w,(callFunc gf args).run P w=.ok (.enter gf args) w)
  {enc:Nat->Array Value} (Fk:∀k,(enc k).size=ps.size) (T T1:Nat->World->Prop) (N:Nat)
  (hT:∀k W l o',T k W->w.heap.size<=l->(∃o:Obj,W.heap[l]?=some o/\o.isCells=false)->T k (W.putObj l o')) (hT1:∀k W l o',T1 k W->w.heap.size<=l->(∃o:Obj,W.heap[l]?=some o/\o.isCells=false)->T1 k (W.putObj l o')) (hTa:∀W o,T 0 W->T 0 (W.alloc o))
  (hiter:∀(r:Loop) (D:Nat) (W:World),w.heap.size<=D->T 0 W->Bk r D W ->
   (∀k W1,k<N->T1 k W1->Bk r D W1->YieldAt F (n-1-1) P (D+1) (enc k) W1 fun e W'=>e=.returned (.bool true)/\T (k+1) W'/\Bk r D W') ->
   CallsIn F (n-1) P gf (#[.func (.yield (D+1)) #[] #[]]++lb) W fun e W'=>(∃v,e=.returned v)/\T N W'/\Bk r D W')
  (h0:T 0 w) (a₁:Nat->Act)
  (hassign:∀(l k:Nat) (W:World) (K:Act->World->Prop),K (a₁ k) W ->
   assign.wpIn (F.inRound l) (n-1-1) P (Exit.then K (fun _ _ _=>False)) {tmps:=(ps.zip (enc k)).foldl (fun t (p,v)=>t.setIfInBounds p v) a.tmps,defers:=[]} W)
  (hbody:∀(l k:Nat) (W:World),T1 k W->k<N->body.wpIn (F.inRound l) (n-1-1) P (fun e _ W'=>e=.normal/\KeepsFrom w.heap.size W W'/\T (k+1) W') (a₁ k) W)
  (BA:∀(D:Nat) (W:World),w.heap.size<=D->T N W->W.heap[D]?=some (.deferred (some []))->Q .normal {a with defers:={target:=.collected D,args:=#[]}::a.defers} W) :
  (Code.rangeFunc g ps assign body).wpIn F n P Q a w:=by
 refine wpIn_rangeFunc fun fn Fn=>?_
 rw[Je]
 let r:LoopState->Loop:=fun st=>{state:=st,pending:=none,fn,tmps:=a.tmps,params:=ps,assign,body,defers:=w.heap.size}
 let W1:World:=(w.alloc (.deferred (some []))).alloc (.loop (r .ready))
 have bk1:Bk (r .ready) w.heap.size W1:=by
  constructor
  ·have:=World.alloc_heap_new (w.alloc (.deferred (some []))) (.loop (r .ready))
   rwa [World.size_alloc] at this
  ·exact(Below.heap_alloc _ _ _ (by simp)).trans (World.alloc_heap_new w _)
 refine⟨w.heap.size+1,[{target:=.collected w.heap.size,args:=#[]}],W1,{target:=.fn (.func gf) lb,args:=#[.func (.yield (w.heap.size+1)) #[] #[]]},W1,gf,
  #[.func (.yield (w.heap.size+1)) #[] #[]]++lb,W1,run_enterLoop_outer _ _ _ _ _,?_,?_,?_,fun _=>h1,?_⟩
 ·simp only[resolve,hg];simp[go_sem]
 ·intro f' MX;simp[Target.leads] at MX;subst MX;exact hFg
 ·simp[invoke,go_sem,eg]
 refine(hiter (r .ready) w.heap.size W1 (J3b _) (hTa _ _ (hTa _ _ h0)) bk1 ?_).mono ?_
 ·-- a round
  intro k W hk ht bk;have Ab:w.heap.size+1<W.heap.size:=(J7z.1 bk.1).1;refine⟨fn,_,assign,body,run_yield bk.1 (Fk k),roundIn_of_wpIn Fn (hassign _ k W _ ⟨_,run_beginRound bk.1 rfl,?_⟩)⟩
  let W2:World:=W.putObj (w.heap.size+1) (.loop (r .busy))
  have bk2:Bk (r .busy) w.heap.size W2:=⟨World.putObj_heap_same Ab,(World.putObj_heap_other (by omega)).trans bk.2⟩
  have J2:T1 k W2:=hT1 k W _ _ ht (by omega) ⟨_,bk.1,rfl⟩;refine wpIn_mono (hbody _ k W2 J2 hk) ?_;rintro e a3 W3⟨rfl,FY,Nh⟩;have bk3:Bk (r .busy) w.heap.size W3:=⟨FY.same _ _ (by omega) bk2.1 rfl,FY.same _ _ (J3b _) bk2.2 rfl⟩
  refine⟨_,_,run_endRound none bk3.1,rfl,hT _ _ _ _ Nh (by omega) ⟨_,bk3.1,rfl⟩,World.putObj_heap_same (J7z.1 bk3.1).1,(World.putObj_heap_other (by omega)).trans bk3.2⟩
 ·rintro e W2⟨⟨v,rfl⟩,ht,bk⟩;exact⟨none,_,run_endLoop bk.1 (by simp[r]),BA _ _ (J3b _) (hT _ _ _ _ ht (by omega) ⟨_,bk.1,rfl⟩) ((World.putObj_heap_other (by omega)).trans bk.2)⟩
attribute [local go_sem] Oper.semAt_some
theorem Z9w(c:Nat)(w:World):Calls prog 239 #[.pointer (some ⟨c,0,none⟩)] w fun r w' =>
  r=.returned (.func (.func 251) #[] #[.pointer (some ⟨w.heap.size,0,none⟩)])/\w'=w.alloc (.cells #[.pointer (some ⟨c,0,none⟩)] 185):=by
 go_enter func239,ntmps239
 go_wp2
 go_ret;exact⟨rfl,rfl⟩
def dueK(now:Nat)(ts:List (Nat×Nat)):Nat:=(ts.takeWhile fun x=>decide (x.2<=now)).length
theorem Z0c(now:Nat)(ts:List (Nat×Nat)):ts.take (dueK now ts)=ts.takeWhile (fun x=>decide (x.2<=now)):=by
 have h:ts.takeWhile (fun x=>decide (x.2<=now))++ts.dropWhile (fun x=>decide (x.2<=now))=ts:=J6Y;unfold dueK
 conv=>lhs;rw[<- h]
 rw[J5w (by simp[h]),h,J7m]
def Z2x(g per now:Nat)(rv:OV)(ts:List (Nat×Nat))(w:World)(r:Ending)(w':World):Prop:=
 ∃rv' ro bx b0,r=.returned (lvOf ro (dueK now ts))/\ovOk rv' (ts.drop (dueK now ts)).length/\rvOk ro (dueK now ts)/\Step (qhl g per (now-1) rv ts) (Q2p g per now bx b0 ts (dueK now ts) (dueK now ts) rv' ro) w w'
theorem J1u(now:Nat)(ts:List (Nat×Nat)):dueK now ts<=ts.length:=by
 have h:ts.takeWhile (fun x=>decide (x.2<=now))++ts.dropWhile (fun x=>decide (x.2<=now))=ts:=J6Y;have:=congrArg List.length h;rw[J3M] at this;unfold dueK;omega
theorem J1v{now:Nat}{ts:List (Nat×Nat)}{k:Nat}{x:Nat×Nat}(hk:k<dueK now ts)(hx:ts[k]?=some x):x.2<=now:=by
 have h:(ts.take (dueK now ts))[k]?=some x:=by rw[J5f,if_pos hk];exact hx
 rw[Z0c] at h;have:=J5q h;have hm:∀(l:List (Nat×Nat)),∀y∈l.takeWhile (fun x=>decide (x.2<=now)),y.2<=now:=by
  intro l
  induction l with
  | nil=>simp
  | cons z r ih =>
   intro y hy;rw[List.takeWhile_cons] at hy;split at hy
   ·rename_i hc;rcases J3g.1 hy with rfl|hy
    ·simpa using hc
    ·exact ih y hy
   ·cases hy
 exact hm _ _ this
theorem Z9x{now:Nat}{ts:List (Nat×Nat)}(Ey:ts.Pairwise (fun a b=>a.2<=b.2)){x:Nat×Nat}(hx:ts[dueK now ts]?=some x):now<x.2:=by
 have h:ts.takeWhile (fun x=>decide (x.2<=now))++ts.dropWhile (fun x=>decide (x.2<=now))=ts:=J6Y;rw[<- h] at hx;unfold dueK at hx;rw[J6r (by rw[h];exact J3b _)] at hx;exact Q9c Ey now x (J5q hx)
theorem Z1k{W:World}{g per now bx b0:Nat}{ts:List (Nat×Nat)}{k j:Nat}{rv:OV}{ro:RV}(h:Sep W (Q2p g per now bx b0 ts k j rv ro)){b:Nat}(hb:b∈keys (Q2p g per now bx b0 ts k j rv ro)):∃cs T f,W.heap[b]?=some (.cells cs T f):=by
 obtain⟨p,hp,rfl⟩:=J3h.1 hb;obtain⟨o,ho,hq⟩:=h.at' p hp;have key:(∃T cs,p.2=isC T cs)∨(∃T n cs,p.2=isR T n cs)∨(∃T m off cs,p.2=isS T m off cs):=by
  unfold Q2p qhl at hp;simp only[J5n,J3g,J3Q] at hp;rcases hp with rfl|hp|rfl|rfl|hp
  ·exact .inl ⟨_,_,rfl⟩
  ·cases rv with
   | none=>cases hp
   | some q =>
    simp only[ovH,J3g,J3y,or_false] at hp;subst hp;exact .inr (.inr ⟨_,_,_,_,rfl⟩)
  ·exact .inl ⟨_,_,rfl⟩
  ·exact .inl ⟨_,_,rfl⟩
  ·cases ro with
   | none=>cases hp
   | some q =>
    simp only[rowH,J3g,J3y,or_false] at hp;subst hp;exact .inr (.inl ⟨_,_,_,rfl⟩)
 rcases key with ⟨T,cs,e⟩|⟨T,n,cs,e⟩|⟨T,m,off,cs,e⟩
 ·rw[e] at hq;subst hq;exact⟨_,_,_,ho⟩
 ·rw[e] at hq;obtain⟨Ag,rfl,_⟩:=hq;exact⟨_,_,_,ho⟩
 ·rw[e] at hq;obtain⟨Ag,rfl,_⟩:=hq;exact⟨_,_,_,ho⟩
theorem Z2y{H0:HL}{w W:World}{g per now bx b0:Nat}{ts:List (Nat×Nat)}{k j:Nat}{rv:OV}{ro:RV}(st:Step H0 (Q2p g per now bx b0 ts k j rv ro) w W){l:Nat}(o':Obj)(hl:w.heap.size<=l)(BK:GB<=w.heap.size)(ho:∃o:Obj,W.heap[l]?=some o/\o.isCells=false):Step H0 (Q2p g per now bx b0 ts k j rv ro) w (W.putObj l o'):=by
 obtain⟨o,ho,OI⟩:=ho;have hn:l∉keys (Q2p g per now bx b0 ts k j rv ro):=fun hb=>by
  obtain⟨cs,T,f,hc⟩:=Z1k st.sep hb;rw[hc] at ho;cases ho;cases OI
 have Aa:∀b,b≠l->(W.putObj l o').heap[b]?=W.heap[b]?:=fun b hb=>World.putObj_heap_other hb
 refine⟨st.sep.same (fun b hb=>Aa b (fun e=>hn (e ▸ hb))) (st.sep.env.same (fun b hb=>Aa b (by omega)) (by have:=st.sep.env.gb;simpa[World.putObj] using this)),?_,st.new⟩;exact⟨st.chg.os,st.chg.tape,st.chg.output,by have:=st.chg.size;simpa[World.putObj] using this,fun b hb hF=>(Aa b (by omega)).trans (st.chg.block b hb hF)⟩
theorem TickS.put{H0:HL}{w W:World}{g per now bx b0:Nat}{ts:List (Nat×Nat)}{k j:Nat}(h:TickS H0 w g per now bx b0 ts k j W){l:Nat}(o':Obj)(hl:w.heap.size<=l)(BK:GB<=w.heap.size)(ho:∃o:Obj,W.heap[l]?=some o/\o.isCells=false):TickS H0 w g per now bx b0 ts k j (W.putObj l o'):=by
 obtain⟨rv,ro,h1,h2,st⟩:=h;exact⟨rv,ro,h1,h2,Z2y st o' hl BK ho⟩
theorem Z7j{W w1:World}{B b0 n:Nat}{T:TypeId}{v v':Value}{xs:List Value}{o:Obj}(Au:(W.alloc o).ownsRow 0 T 1 v n xs)(hg:(W.alloc o).grownBy w1 v.ownBlock)(hb:b0<B):KeepsFrom B W (w1.setCell ⟨b0,0,none⟩ v'):=by
 refine⟨by have:=hg.size;simp at this;simp[World.setCell];omega,fun k o2 hB hk OI=>?_⟩;have Ab:=(J7z.1 hk).1;refine(Below.heap_setCell _ _ _ _ (fun e=>by have e':k=b0:=e;omega)).trans ?_;have Bt:(W.alloc o).heap[k]?=some o2:=(Below.heap_alloc _ _ _ Ab).trans hk;refine(hg.block k (by simp;omega) (fun e=>?_)).trans Bt;rcases Au.2 with ⟨rfl,_⟩|⟨g,cap,Ag,rfl,_,BK,_⟩
 ·cases e
 ·have:k=g:=by simpa[Value.ownBlock] using e
  subst this;rw[BK] at Bt;cases Bt;cases OI
theorem Z9y(F:Fence)(hF:Hid (F=Fence.wide))(n:Nat)(hn:4<=n){w:World}{g per now:Nat}{rv:OV}{ts:List (Nat×Nat)}(h:Sep w (qhl g per now rv ts))(Bg:ovOk rv ts.length)(hl:ts.length<=256)(ET:now<1048576)(Ey:ts.Pairwise (fun a b=>a.2<=b.2)) :
  CallsIn F n prog 211 #[.pointer (some ⟨g,0,none⟩)] w (Z2x g per (now+1) rv ts w):=by
 have h1:F.fn 211:=by rw[hF.out];trivial
 have h2:F.fn 251:=by rw[hF.out];trivial
 have h3:F.fn 239:=by rw[hF.out];trivial
 have Je:F.round=none:=by rw[hF.out];rfl
 have Ds:1<=n:=by omega
 obtain⟨i0,hi,Bx,AX,AU⟩:=info_parts infoint;have hc:Cells w g 305 [.int .i64 per,.int .i64 now,ovOf rv ts.length]:=h.cells (by simp[qhl]);have c1:=hc.cell 1 _ rfl;have f1:=hc.free 1;have Ab:=hc.lt;have hw:IntKind.i64.wrap ((now:Int)+1)=(now:Int)+1:=Go.IntWalk.i64_in _ (by omega);have EV:wrap64 ((now:Int)+1)=(now:Int)+1:=Go.IntWalk.wrap64_in _ (by omega);obtain⟨W5,On⟩:∃W5,W5=(((w.setCell ⟨g,1,none⟩ (.int .i64 ((now:Int)+1))).alloc (.cells #[.slice none 0 0] 38)).alloc (.cells #[.pointer (some ⟨g,0,none⟩)] 185)):=⟨_,rfl⟩
 have Be:(w.setCell ⟨g,1,none⟩ (.int .i64 ((now:Int)+1))).heap.size=w.heap.size:=by simp[World.setCell]
 have T0:Hid (TickS (qhl g per now rv ts) w g per (now+1) (w.heap.size+1) w.heap.size ts 0 0 W5/\W5.heap.size=w.heap.size+2):=by
  have s1:Step (qhl g per now rv ts) (qhl g per (now+1) rv ts) w (w.setCell ⟨g,1,none⟩ (.int .i64 ((now:Int)+1))):=by
   have:=Sep.set (A:=[]) (B:=ovH rv 331 2 (Q1l ts)) h 1 (.int .i64 ((now:Int)+1));exact this
  have s2:=s1.sep.new 38 [.slice none 0 0];rw[Be] at s2;have s3:=s2.sep.new 185 [.pointer (some ⟨g,0,none⟩)];rw[World.size_alloc,Be] at s3;have s4:=(s1.trans s2).trans s3;rw[On];refine⟨⟨rv,none,Bg,rfl,s4.perm (J6w _) ?_⟩,by simp[World.setCell]⟩;unfold Q2p;show List.Perm (_::_::qhl g per (now+1) rv ts) (qhl g per (now+1) rv ts++_::_::[]);refine(J5P (l₁:=[_,_]) (l₂:=qhl g per (now+1) rv ts)).trans ?_;exact J6w _
 clear Be;refine callsIn_of_wp_marks func211 rfl h1 ?_ Je;simp only[ntmps211,J5H,J3N,J5B,Nat.reduceAdd,Nat.reduceSub,Array.replicate_succ,Array.replicate_zero,List.push_toArray,List.append_toArray,J5m,J5n]
 gi_wp2_with (gi_at_call 239;refine(J0N hF (Z9w g _)).mono ?_;rintro e w'⟨rfl,rfl⟩)
 rw[<- On];clear On;have BK:=h.env.gb;have VS:=T0.out.2;have Wa:=J1u (now+1) ts;have AA:∀k,k<dueK (now+1) ts->∃x,ts[k]?=some x:=fun k hk=>⟨_,J5t (by omega)⟩
 refine Z1j Je Ds (gf:=251) (lb:=#[.pointer (some ⟨w.heap.size+1,0,none⟩)]) rfl h2 (enters_of func251 (by kernel_rfl) rfl)
  (enc:=fun k=>#[.int .i64 (((ts[k]?.getD (0,0)).1:Nat):Int)]) (fun _=>rfl)
  (fun k W=>k<=dueK (now+1) ts/\TickS (qhl g per now rv ts) w g per (now+1) (w.heap.size+1) w.heap.size ts k k W)
  (fun k W=>k<dueK (now+1) ts/\TickS (qhl g per now rv ts) w g per (now+1) (w.heap.size+1) w.heap.size ts (k+1) k W)
  (dueK (now+1) ts)
  (fun k W l o' ht hl ho=>⟨ht.1,ht.2.put o' (by omega) BK ho⟩) (fun k W l o' ht hl ho=>⟨ht.1,ht.2.put o' (by omega) BK ho⟩)
  (fun W o ht=>⟨ht.1,by obtain⟨a1,a2,a3,a4,st⟩:=ht.2;exact⟨a1,a2,a3,a4,st.trans (st.sep.grown ((Below.refl _ _).alloc (J3b _) o))⟩⟩)
  ?iter ⟨J5e _,T0.out.1⟩
  (fun k=>{tmps:=#[.pointer (some ⟨g,0,none⟩),undef,.slice none 0 0,.pointer (some ⟨w.heap.size,0,none⟩),.int .i64 (((ts[k]?.getD (0,0)).1:Nat):Int),.pointer (some ⟨g,0,none⟩),.bool false,.pointer (some ⟨g,0,none⟩),.pointer (some ⟨g,0,none⟩),.pointer (some ⟨g,1,none⟩),.int .i64 now,.int .i64 ((now:Int)+1),.pointer (some ⟨g,0,none⟩),.pointer (some ⟨g,1,none⟩),.pointer (some ⟨g,0,none⟩),.func (.func 251) #[] #[.pointer (some ⟨w.heap.size+1,0,none⟩)],.int .i64 (((ts[k]?.getD (0,0)).1:Nat):Int),undef,undef,undef,undef,undef],defers:=[]}) ?assign ?body ?done
 case iter =>
  intro r D W hD ht bk hy;refine J2u F hF (n-1) (by omega) (D+1) (w.heap.size+1) g (now+1) (dueK (now+1) ts) (fun k=>(ts[k]?.getD (0,0)).1)
   (fun k W=>(k<=dueK (now+1) ts/\TickS (qhl g per now rv ts) w g per (now+1) (w.heap.size+1) w.heap.size ts k k W)/\Bk r D W)
   (fun k W=>(k<dueK (now+1) ts/\TickS (qhl g per now rv ts) w g per (now+1) (w.heap.size+1) w.heap.size ts (k+1) k W)/\Bk r D W) W
   (fun k W hj=>?_) (fun k W m hj=>⟨⟨hj.1.1,hj.1.2.drewN m⟩,hj.2⟩) (fun k W m hj=>⟨⟨hj.1.1,hj.1.2.drewN m⟩,hj.2⟩) (fun k W1 hk hj=>hy k W1 hk hj.1 hj.2) ⟨ht,bk⟩
  obtain⟨⟨hk,Og⟩,AJ⟩:=hj;obtain⟨rv',ro',q1,q2,st⟩:=Og;have Ma:=st.sep.cells (Z1i g per (now+1) (w.heap.size+1) w.heap.size ts k k rv' ro');have EO:=st.sep.cells (b:=w.heap.size+1) (T:=185) (cs:=[ptr g]) (by simp[Q2p]);refine⟨EO.cell 0 _ rfl,Ma.cell 1 _ (by rw[Int.natCast_add];rfl),Ma.free 2,hk,fun IB=>?_,fun e=>?_⟩
  ·obtain⟨x,hx⟩:=AA k IB;have D9:=TickS.front ⟨rv',ro',q1,q2,st⟩ hx (J1v IB hx);obtain⟨b,off,len,cap,at_,p1,p2,p3,p4,p5,p6,p7⟩:=D9.it;have P3:(ts[k]?.getD (0,0)).1=x.1:=by rw[hx];rfl
   exact⟨b,off,len,cap,at_,p1,p2,p3,by rw[P3];exact p4,p5,p6,⟨⟨IB,p7⟩,AJ.set (by omega) 2 _⟩⟩
  ·exact TickS.late ⟨rv',ro',q1,q2,st⟩ fun x hx=>Z9x Ey (by rw[<- e];exact hx)
 case assign =>
  intro l k W K hK;dsimp only at hK ⊢;generalize (ts[k]?.getD (0,0)).1=x at *
  gi_wp2
  exact hK
 case body =>
  rintro l k W⟨hk,ht⟩ _;obtain⟨x,hx⟩:=AA k hk;have P3:(ts[k]?.getD (0,0)).1=x.1:=by rw[hx];rfl
  rw[P3];obtain⟨v,c0,f0,Au,AS⟩:=ht.row hx (.cells #[.int .i64 (x.1:Int)] 3);have Bi:=Q0a AS;have Sr:k<=256:=by omega
  clear AS ht h hc c1 f1 Bg Ey T0 AA
  gi_wp2_with (gi_at_builtin;refine wpListIn_append_own_at _ rfl _ _ 38 rfl 0 3 i0 (.int .i64 0) 1 8 underlying38 hi Bx AX AU rfl (by decide) _ _ _ rfl Au ⟨W.heap.size,0,none⟩ 1 1 [.int .i64 (x.1:Int)] rfl rfl (cell_one_new _ _ _) (by simp[Value.oneCell']) (by unfold maxLen;omega) (by omega) (J5e _) ?_;intro v' w1 AH B9 _ CS;have Du:=B9.size;obtain⟨⟨u0,d0⟩,df,Og⟩:=Bi.out v' w1 AH B9 CS;obtain⟨g',BG,rfl⟩:=ownsRow_succ AH;have TX:=Q0a Og;have HG:=Q0a B9;have LA:=Q0a Au;clear Og AH B9 CS Au)
  exact⟨Z7j LA.out HG.out (by omega),hk,TX.out⟩
 case done =>
  intro D W hD ht hK;obtain⟨_,rv',ro',q1,q2,st⟩:=ht;have EO:=(st.sep.cells (b:=w.heap.size) (T:=38) (cs:=[lvOf ro' (dueK (now+1) ts)]) (by simp[Q2p])).cell 0 _ rfl
  gi_wp2
  refine⟨by simp,.inl ⟨_,_,rfl,run_takeDeferred hK,?_⟩⟩;refine⟨_,results_tmp rfl _ _ _,?_⟩;exact⟨rv',ro',_,_,rfl,q1,q2,Z2y st _ (by omega) BK ⟨_,hK,rfl⟩⟩
theorem Z7k{w:World}{g per now:Nat}{rv:OV}{ts:List (Nat×Nat)}(h:Sep w (qhl g per now rv ts))(Bg:ovOk rv ts.length)(hl:ts.length<=256)(ET:now<1048576)(Ey:ts.Pairwise (fun a b=>a.2<=b.2)) :
  Calls prog 211 #[.pointer (some ⟨g,0,none⟩)] w (Z2x g per (now+1) rv ts w):=
 (callsIn_wide (n:=4)).1 (Z9y Fence.wide rfl 4 (J3b _) h Bg hl ET Ey)
theorem Q4U{α:Type}(f:α->Int){l:List α}(h:∀x∈l,0<=f x){a:α}(ha:a∈l):f a<=(l.map f).sum:=by
 have nn:∀l:List α,(∀x∈l,0<=f x)->0<=(l.map f).sum:=by
  intro l
  induction l with
  | nil=>simp
  | cons x r ih =>
   intro h;rw[J3e,J6P];have:=h x (by simp);have:=ih fun y hy=>h y (by simp[hy])
   omega
 induction l with
 | nil=>cases ha
 | cons x r ih =>
  rw[J3e,J6P];have h1:=h x (by simp);have h2:∀y∈r,0<=f y:=fun y hy=>h y (by simp[hy])
  rcases J3g.1 ha with rfl|ha
  ·have:=nn r h2;omega
  ·have:=ih h2 ha;omega
theorem Z9z{q:QT}(ok:q.Ok){l:List Pl}{xc:Int->Int}(t:TreI q.E l xc){par id:Int}{e c:En Fa}(he:find q.E par=some e)(hc:find q.E id=some c)(hp:c.q.parent=par):c.q.limit<=e.q.given/\1<=e.q.kids:=by
 obtain⟨g1,g2⟩:=t.given par e he;have hm:c∈q.E:=(Q0b hc).1;have Ec:∀x∈q.E,0<=x.q.limit:=fun x hx=>by
  have:=ok.fa _ _ (Q2V ok.ids hx);omega
 have k1:givF par c<=(q.E.map (givF par)).sum:=Q4U _ (fun x hx=>by have:=Ec x hx;unfold givF;split <;> omega) hm;have k2:kidF par c<=(q.E.map (kidF par)).sum:=Q4U _ (fun x _=>by unfold kidF;split <;> omega) hm;unfold Q1Y at g1;unfold Q1Z at g2;unfold givF at k1;unfold kidF at k2;rw[if_pos hp] at k1 k2;unfold givF at g1;unfold kidF at g2;omega
theorem Inv.wordf{P:PL}{l:List Pl}{fr:List Nat}{xc:Int->Int}{zs:List Nat}(v:Inv P l fr xc zs){p:Pl}(hp:p∈l)(hi:p.is=true)(hk:p.kind=1):Q0u P.a.mem p.at_=p.own/\p.at_%8=0/\p.at_+8<=P.a.mem.length/\p.own<1048576:=by
 have hu:=v.mem.used hp hi (by omega);rw[hk] at hu;have h1:=Q0m v.mem.pool hu;have:Q0c 1=64:=rfl;refine⟨v.mem.word p hp hi hk,Q2u v.mem.pool hu,by omega,?_⟩;obtain⟨e,he⟩:=v.tre.acc hp hi hk;have h2:=v.mem.pool.q.fa _ e he;have h3:=v.mem.pool.q.next1;omega
theorem Q4e{α:Type}(p:α->Bool):∀l:List α,l.drop (l.takeWhile p).length=l.dropWhile p
 | []=>rfl
 | x::r=>by
  rw[List.takeWhile_cons,List.dropWhile_cons];cases h:p x with
  | true=>simpa using Q4e p r
  | false=>simp
def Z7l(S1:CO)(N K h:Nat)(zs:List Nat)(wr w5:World):Prop:=∃S2 fr2,Mid S2 fr2 N K zs/\Ticked S1 S2 [h]/\Step S1.hl S2.hl wr w5
def TF(S:CO)(bx k a f:Nat)(w':World):Prop:=w'.cell? ⟨S.c,0,none⟩=some (.pointer (some ⟨S.P.p,0,none⟩))/\w'.cell? ⟨S.P.p,0,none⟩=some (.pointer (some ⟨S.P.q.t,0,none⟩))/\w'.cell? ⟨bx,0,none⟩=some (.int .i64 k)/\w'.cell? ⟨bx,1,none⟩=some (.int .i64 a)/\w'.cell? ⟨bx,2,none⟩=some (.int .i64 f)
theorem TF.of{w1 w2:World}{S:CO}{l':List Pl}{P':PL}(h1:Sep w1 (S.setL l').hl){w0:World}(st:Step (S.setL l').hl ((S.setL l').setP P').hl w0 w2)(hp:P'.p=S.P.p)(hq:P'.q.t=S.P.q.t)(hl:w1.heap.size<w0.heap.size){k a f:Nat}
  (e0:w0.cell? ⟨w1.heap.size,0,none⟩=some (.int .i64 k)) (e1:w0.cell? ⟨w1.heap.size,1,none⟩=some (.int .i64 a)) (e2:w0.cell? ⟨w1.heap.size,2,none⟩=some (.int .i64 f)):TF S w1.heap.size k a f w2:=by
 have c:=CO.c0 st.sep;have p0:=PL.c0 (CO.sP st.sep);have e:((S.setL l').setP P').P=P':=rfl;rw[e,hp] at c p0;rw[hq] at p0;exact⟨c,p0,st.box h1 hl e0,st.box h1 hl e1,st.box h1 hl e2⟩
theorem Z4g{wr:World}{S1:CO}{fr1:List Nat}{N K h:Nat}{zs:List Nat}(hs:Sep wr S1.hl)(m:Mid S1 fr1 N K (h::zs))(hK:K<=1048575) :
  ∃p:Pl,pget S1.l 2 h=some p/\h<4294967296/\Calls prog 212 #[.pointer (some ⟨S1.t,0,none⟩),.int .u32 h] wr fun r w1=>r=.returned (.tuple #[.agg #[.int .i64 (p.kind:Int),.int .i64 (p.at_:Int),.int .i64 (p.fac:Int)],.int .i64 0])/\wr.heap.size<=w1.heap.size/\S1.c<w1.heap.size /\
   (p.kind≠1->Calls prog 154 #[.pointer (some ⟨S1.c,0,none⟩),.agg #[.int .i64 (p.kind:Int),.int .i64 (p.at_:Int),.int .i64 (p.fac:Int)]] (w1.alloc (.cells #[.int .i64 (p.kind:Int),.int .i64 (p.at_:Int),.int .i64 (p.fac:Int)] 54)) fun r w5=>r=.returned (.tuple #[])/\Z7l S1 N K h zs wr w5) /\
   (p.kind=1->TF S1 w1.heap.size p.kind p.at_ p.fac (w1.alloc (.cells #[.int .i64 (p.kind:Int),.int .i64 (p.at_:Int),.int .i64 (p.fac:Int)] 54)) /\
    Calls prog 203 #[.pointer (some ⟨S1.c,0,none⟩),.agg #[.int .i64 (p.kind:Int),.int .i64 (p.at_:Int),.int .i64 (p.fac:Int)]] (w1.alloc (.cells #[.int .i64 (p.kind:Int),.int .i64 (p.at_:Int),.int .i64 (p.fac:Int)] 54)).drew fun r w3=>r=.returned (.int .i64 (p.own:Int))/\TF S1 w1.heap.size p.kind p.at_ p.fac w3 /\
     Calls prog 213 #[.pointer (some ⟨S1.P.q.t,0,none⟩),.int .i64 (p.own:Int)] w3 fun r w4=>r=.returned (.int .i64 0)/\TF S1 w1.heap.size p.kind p.at_ p.fac w4 /\
      Calls prog 154 #[.pointer (some ⟨S1.c,0,none⟩),.agg #[.int .i64 (p.kind:Int),.int .i64 (p.at_:Int),.int .i64 (p.fac:Int)]] w4 fun r w5=>r=.returned (.tuple #[])/\Z7l S1 N K h zs wr w5):=by
 obtain⟨p,hp⟩:=(m.inv.que.has h).1 (by simp);obtain⟨hi,KE,Ap⟩:=pget_some.1 hp;have BP:=Q0z hp;have Cv:p.is=true:=Pl.is_iff.2 (.inr Ap);have DL:=(m.age p BP).2 Ap;have ET:=m.now;have Sf:=(m.inv.st p BP).2;have KT:h<4294967296:=by unfold nm at KE;omega
 have AG:=m.inv.lok;have B8:=m.inv.mem.pool;obtain⟨e,he⟩:=m.inv.tre.fac p BP Cv;have Ia:=m.inv.tre.pays BP Cv (m.inv.que.xc _).1 he;refine⟨p,hp,KT,?_⟩;refine Calls.mono (Z3m (h:=S1.ht) (CO.sT hs) AG KT hp (by omega)) ?_;rintro r w1⟨rfl,st⟩;have s1:Step S1.hl (S1.setL (S1.l.set (h%256) (noPl (p.age+1)))).hl wr w1:=CO.stepL hs _ st;have AM:S1.c<w1.heap.size:=(CO.cells s1.sep).lt;have hB:=Cells.new w1 54 [.int .i64 (p.kind:Int),.int .i64 (p.at_:Int),.int .i64 (p.fac:Int)];have sA:=s1.sep.grown (((Below.refl _ w1).alloc (J3b _) (.cells #[.int .i64 (p.kind:Int),.int .i64 (p.at_:Int),.int .i64 (p.fac:Int)] 54)))
 refine⟨rfl,s1.chg.size,AM,fun hk=>?_,fun hk=>?_⟩
 ·have BV:Held S1.P fr1 p.fac p.kind p.at_ e:=⟨he,Ia,fun h8=>m.inv.mem.used BP Cv h8,fun h8=>m.inv.mem.frame BP Cv h8⟩
  refine Calls.mono (Q8y (S:=S1.setL (S1.l.set (h%256) (noPl (p.age+1)))) sA.sep B8 BV) ?_;rintro r w5⟨rfl,P',fr',bk,st5⟩;have EY:=m.inv.freeN hp hk bk (by omega);obtain⟨e',q1,_,q3⟩:=bk.q;obtain⟨m2,t2⟩:=m.freed hp bk.same bk.mem (by rw[q3];rfl) (bk.high B8 (by have:=m.inv.kind hp (.inr rfl);omega)) bk.few EY;exact⟨rfl,_,fr',m2,t2,(s1.trans sA).trans st5⟩
 ·obtain⟨h0,Aq,c,hc,c1,c2,c3,c4⟩:=m.inv.last hp hk;obtain⟨k1,k2,k3,k4⟩:=m.inv.wordf BP Cv hk;obtain⟨k5,k6⟩:=Z9z B8.q m.inv.tre he hc c4;have Aa:(p.own:Int)≠p.fac:=by
   have:=(m.inv.tre.par p BP Cv hk c hc).2 h0;omega
  have Nc:=B8.q.fa _ c hc;have DG:w1.heap.size<(w1.alloc (.cells #[.int .i64 (p.kind:Int),.int .i64 (p.at_:Int),.int .i64 (p.fac:Int)] 54)).heap.size:=by simp
  have F0:TF S1 w1.heap.size p.kind p.at_ p.fac (w1.alloc (.cells #[.int .i64 (p.kind:Int),.int .i64 (p.at_:Int),.int .i64 (p.fac:Int)] 54)):=⟨CO.c0 (S:=S1.setL (S1.l.set (h%256) (noPl (p.age+1)))) sA.sep,PL.c0 (CO.sP (S:=S1.setL (S1.l.set (h%256) (noPl (p.age+1)))) sA.sep),hB.cell 0 _ rfl,hB.cell 1 _ rfl,hB.cell 2 _ rfl⟩
  refine⟨F0,?_⟩;refine Calls.mono (Q9r (k:=p.kind) (f:=p.fac) sA.sep.drew B8.bytes (Q0o B8) k2 k3 k1 k4) ?_;rintro r w3⟨rfl,hb⟩;have sW:=sA.drew.sep.grown hb;have s3:=sA.drew.trans sW;have Wg:=sW.chg.size;have F3:TF S1 w1.heap.size p.kind p.at_ p.fac w3:=TF.of (P':=S1.P) s1.sep sW rfl rfl DG F0.2.2.1 F0.2.2.2.1 F0.2.2.2.2;refine⟨rfl,F3,?_⟩;have hq:=Z6x (PL.sQ (CO.sP s3.sep)) B8.q (id:=(p.own:Int)) hc (by omega) c1 c2 c3 (by rw[c4];exact he) k5 (by omega);refine Calls.mono hq ?_;rintro r w4⟨rfl,st4⟩;rw[c4] at st4;have s4:=CO.stepP s3.sep (S1.P.setQ (closed S1.P.q p.fac e c p.own)) rfl (PL.stepQ (CO.sP s3.sep) (closed S1.P.q p.fac e c p.own) rfl st4)
  have F4:TF S1 w1.heap.size p.kind p.at_ p.fac w4:=TF.of (P':=S1.P.setQ (closed S1.P.q p.fac e c p.own)) s1.sep s4 rfl rfl (by have:w1.heap.size<(w1.alloc (.cells #[.int .i64 (p.kind:Int),.int .i64 (p.at_:Int),.int .i64 (p.fac:Int)] 54)).drew.heap.size:=DG;omega) F3.2.2.1 F3.2.2.2.1 F3.2.2.2.2;refine⟨rfl,F4,?_⟩;have okq:=Z5Z B8.q he hc Aa.symm (by omega) (by omega) (by omega);have ok1:=PL.ok_setQ B8 okq;have pw1:(upd S1.P.q.E p.fac {e.q with given:=e.q.given-c.q.limit,kids:=e.q.kids-1}).Pairwise (fun a b=>a.id≠b.id):=Q0Q _ _ (fun a b a' b' _ h1 _ h2 h=>by rw[<- h1,<- h2];exact h) B8.q.ids
  have Fz:find (closed S1.P.q p.fac e c p.own).E p.fac=some {e with q:={e.q with given:=e.q.given-c.q.limit,kids:=e.q.kids-1}}:=by
   show find (rem (upd S1.P.q.E p.fac _) p.own) p.fac=_;rw[Q2r pw1,if_neg (fun h=>Aa h.symm),Q0h he]
  have BV:Held (S1.P.setQ (closed S1.P.q p.fac e c p.own)) fr1 p.fac p.kind p.at_ {e with q:={e.q with given:=e.q.given-c.q.limit,kids:=e.q.kids-1}}:=⟨Fz,Ia,fun h8=>m.inv.mem.used BP Cv h8,fun h8=>m.inv.mem.frame BP Cv h8⟩
  refine Calls.mono (Q8y (S:=(S1.setL (S1.l.set (h%256) (noPl (p.age+1)))).setP (S1.P.setQ (closed S1.P.q p.fac e c p.own))) s4.sep ok1 BV) ?_;rintro r w5⟨rfl,P',fr',bk,st5⟩;rw[hk] at bk;have EY:=m.inv.freeF hp hk he hc (P1:=S1.P.setQ (closed S1.P.q p.fac e c p.own)) rfl bk (by omega);obtain⟨e',q1,_,q3⟩:=bk.q;obtain⟨m2,t2⟩:=m.freed hp (P':=P') (SameP.trans (P:=S1.P) (P1:=S1.P.setQ (closed S1.P.q p.fac e c p.own)) ⟨rfl,rfl,rfl,rfl,rfl,rfl,rfl⟩ bk.same) (bk.mem.trans rfl) (by rw[q3];rfl) (bk.high ok1 (by omega)) bk.few EY;exact⟨rfl,_,fr',m2,t2,((s1.trans s3).trans s4).trans st5⟩
theorem Q5v{w w1:World}{B size n:Nat}{T:TypeId}{v:Value}{xs:List Value}(h:w.ownsRow B T size v n xs)(hk:∀b,v.ownBlock=some b->w1.heap[b]?=w.heap[b]?):w1.ownsRow B T size v n xs:=by
 refine⟨h.1,?_⟩;rcases h.2 with h|⟨g,cap,Ag,rfl,hB,hg,rest⟩
 ·exact .inl h
 ·exact .inr ⟨g,cap,Ag,rfl,hB,(hk g rfl).trans hg,rest⟩
theorem Step.own{H H':HL}{w w1 w2:World}(st:Step H H' w w1){v:Value}(hg:w1.grownBy w2 v.ownBlock)(Af:∀b,v.ownBlock=some b->w.heap.size<=b/\b∉keys H')(BK:GB<=w.heap.size):Step H H' w w2:=by
 have hk:∀b∈keys H',w2.heap[b]?=w1.heap[b]?:=fun b hb=>hg.block b (st.sep.lt hb) (fun e=>(Af b e.symm).2 hb)
 refine⟨st.sep.same hk ?_,?_,st.new⟩
 ·exact st.sep.env.same (fun b hb=>hg.block b (J3d hb st.sep.env.gb) (fun e=>by
   have h1:=(Af b e.symm).1;omega)) (J3c st.sep.env.gb hg.size)
 ·refine⟨hg.os.trans st.chg.os,hg.tape.trans st.chg.tape,hg.output.trans st.chg.output,J3c st.chg.size hg.size,fun k hk hF=>?_⟩;exact(hg.block k (J3d hk st.chg.size) (fun e=>by have:=(Af k e.symm).1;omega)).trans (st.chg.block k hk hF)
structure TI(w:World)(S1:CO)(gi:Nat)(ids:List Nat)(ov:Value)(D:List Nat)(wr:World):Prop where
 row:wr.ownsRow w.heap.size 58 1 ov D.length (Q1i D)
 off:∀b∈keys S1.hl,ov.ownBlock≠some b
 cell:∀(j y:Nat),ids[j]?=some y->gi<wr.heap.size/\gi∉keys S1.hl/\ov.ownBlock≠some gi/\wr.cell? ⟨gi,j,none⟩=some (.int .i64 y)
theorem TI.step{w wr w1:World}{S1 S2:CO}{gi:Nat}{ids D:List Nat}{ov:Value}(t:TI w S1 gi ids ov D wr)(st:Step S1.hl S2.hl wr w1):TI w S2 gi ids ov D w1:=by
 have Af:∀b,ov.ownBlock=some b->b<wr.heap.size:=fun b hb=>(t.row.lt b hb).2
 refine⟨Q5v t.row (fun b hb=>st.chg.block b (Af b hb) (fun hk=>t.off b hk hb)),fun b hb e=>?_,fun j y hj=>?_⟩
 ·rcases st.new b hb with h|h
  ·exact t.off b h e
  ·have:=Af b e;omega
 ·obtain⟨a1,a2,a3,a4⟩:=t.cell j y hj;refine⟨J3d a1 st.chg.size,fun hk=>?_,a3,(World.cell?_of_block (w:=wr) (st.chg.block _ a1 a2)).trans a4⟩;rcases st.new _ hk with h|h
  ·exact a2 h
  ·omega
theorem TI.app{w wr w1:World}{S1:CO}{gi y:Nat}{ids D:List Nat}{ov v':Value}(t:TI w S1 gi ids ov D wr)(hs:Sep wr S1.hl)(Af:w1.ownsRow w.heap.size 58 1 v' (D.length+1) (Q1i D++Q1i [y]))(hg:(wr.alloc (.cells #[.int .u32 y] 58)).grownBy w1 ov.ownBlock)(AA:v'.ownBlock=ov.ownBlock∨v'.ownBlock=some (wr.alloc (.cells #[.int .u32 y] 58)).heap.size):TI w S1 gi ids v' (D++[y]) w1:=by
 have Be:(wr.alloc (.cells #[.int .u32 y] 58)).heap.size=wr.heap.size+1:=by simp
 refine⟨by rw[J3M,hands_app];exact Af,fun b hb e=>?_,fun j z hj=>?_⟩
 ·rcases AA with h|h
  ·exact t.off b hb (h ▸ e)
  ·rw[h] at e;cases e;have:=hs.lt hb;omega
 ·obtain⟨a1,a2,a3,a4⟩:=t.cell j z hj;have Hd:=hg.size;refine⟨by omega,a2,fun e=>?_,(World.cell?_of_block (w:=wr.alloc _) (hg.block gi (by omega) (fun e=>a3 e.symm))).trans (Q0J a4)⟩;rcases AA with h|h
  ·exact a3 (h ▸ e)
  ·rw[h] at e;have:=J3Z e;omega
def TRel(S:CO)(N K:Nat)(rv:OV)(w:World)(gi k gk:Nat)(ov:Value)(wr:World):Prop:=
 ∃(S1:CO) (fr1:List Nat),k+gk=(dueN S).length/\Mid S1 fr1 N (K+1) ((dueN S).drop k)/\Ticked (S.setG (S.now+1) rv (dueT S)) S1 ((dueN S).take k)/\Step S.hl S1.hl w wr/\TI w S1 gi (dueN S) ov ((dueN S).take k) wr
theorem Z9A{S S1 S2:CO}{fr2:List Nat}{N K k y gk:Nat}{rv:OV}{w wr w5:World}{gi:Nat}{ov:Value}(BK:GB<=w.heap.size)(hy:(dueN S)[k]?=some y)(AC:k+1+gk=(dueN S).length)(hl:(dueN S).length<=256)(AW:Ticked (S.setG (S.now+1) rv (dueT S)) S1 ((dueN S).take k))(Ap:Step S.hl S1.hl w wr)(hti:TI w S1 gi (dueN S) ov ((dueN S).take k) wr)
  (hm:Mid S2 fr2 N (K+1) ((dueN S).drop (k+1))) (ht:Ticked S1 S2 [y]) (st:Step S1.hl S2.hl wr w5) :
  ∃v' w6,(Builtin.append_ #[51,51] 51 #[ov,.slice (some ⟨w5.heap.size,0,none⟩) 1 1]).run prog (w5.alloc (.cells #[.int .u32 y] 58))=.ok v' w6/\TRel S N K rv w gi (k+1) gk v' w6:=by
 have t5:=hti.step st;have N1:=Ap.trans st;have hk:k<(dueN S).length:=(J3t.1 hy).1;have Au:(w5.alloc (.cells #[.int .u32 y] 58)).ownsRow w.heap.size 58 1 ov ((dueN S).take k).length (Q1i ((dueN S).take k)):=t5.row.alloc _;have Q0:w.heap.size<=(w5.alloc (.cells #[.int .u32 y] 58)).heap.size:=by
  have:=N1.chg.size;rw[World.size_alloc];omega
 obtain⟨v',w6,e1,e2,e3,e4⟩:=Z6Q (ty:=51) (a:=some ⟨w5.heap.size,0,none⟩) (cap:=1) Au (Z2w w5 y) (by rw[J5v,J7e];omega) Q0;have Db:(dueN S).take (k+1)=(dueN S).take k++[y]:=by
  rw[J4Y,hy];rfl
 refine⟨v',w6,e1,S2,fr2,AC,hm,?_,?_,?_⟩
 ·rw[Db];exact AW.trans ht
 ·have TQ:=N1.trans (N1.sep.grown ((Below.refl _ w5).alloc (J3b _) (.cells #[.int .u32 y] 58)));refine TQ.own e3 (fun b hb=>⟨(Au.lt b hb).1,fun hk=>t5.off b hk hb⟩) BK
 ·rw[Db];exact t5.app N1.sep e2 e3 e4
theorem Z9B{S:CO}{fr:List Nat}{N K:Nat}(ok:S.Ok fr N K):(dueN S).length<=256:=by
 have:=ok.few;unfold dueN;rw[J4L];exact J3c (List.takeWhile_sublist _).length_le this
theorem Z4h{S:CO}{fr:List Nat}{N K:Nat}{w w1:World}{r:Ending}(h:Sep w S.hl)(ok:S.Ok fr N K)(hg:Z2x S.g S.period (S.now+1) S.rv S.ts w r w1) :
  ∃(rv:OV) (gi:Nat) (ad:Option Addr) (cap:Nat),r=.returned (.slice ad (dueN S).length cap)/\((dueN S).length≠0->ad=some ⟨gi,0,none⟩)/\ovOk rv (dueT S).length/\TRel S N K rv w gi 0 (dueN S).length (.slice none 0 0) w1:=by
 obtain⟨rv,ro,bx,b0,rfl,o1,o2,st⟩:=hg;have e0:S.now+1-1=S.now:=by omega
 rw[e0] at st;have eT:S.ts.drop (dueK (S.now+1) S.ts)=dueT S:=by
  exact Q4e _ S.ts
 have eN:(S.ts.take (dueK (S.now+1) S.ts)).map Prod.fst=dueN S:=by rw[Z0c];rfl
 have eL:dueK (S.now+1) S.ts=(dueN S).length:=by unfold dueK dueN;rw[J4L]
 unfold Q2p at st;rw[eT] at st o1;rw[eN] at st;rw[eL] at st o2 ⊢;have stW:=Step.lift S.permG (J6w _) h st;have st1:=CO.stepG h (S.now+1) rv (dueT S) (st.drop (J3R _ _));have BN:∀b∈keys (S.setG (S.now+1) rv (dueT S)).hl,b∈keys (qhl S.g S.period (S.now+1) rv (dueT S)++(S.head::(S.P.hl++S.ht.hl))):=fun b hb=>((S.setG (S.now+1) rv (dueT S)).permG.map Prod.fst).mem_iff.1 hb
 obtain⟨gi,ad,cap,e1,e2,e3⟩:∃(gi:Nat) (ad:Option Addr) (cap:Nat),lvOf ro (dueN S).length=.slice ad (dueN S).length cap/\((dueN S).length≠0->ad=some ⟨gi,0,none⟩)/\((dueN S).length≠0->ro=some (gi,cap)):=by
  cases ro with
  | none =>
   have h0:(dueN S).length=0:=o2;exact⟨0,none,0,by rw[h0];rfl,fun h=>absurd h0 h,fun h=>absurd h0 h⟩
  | some q=>exact⟨q.1,some ⟨q.1,0,none⟩,q.2,rfl,fun _=>rfl,fun _=>rfl⟩
 refine⟨rv,gi,ad,cap,by rw[e1],e2,o1,_,fr,by omega,?_,?_,st1,⟨World.ownsRow_nil _ _ _ _,fun b _ h=>by simp[Value.ownBlock] at h,fun j y hj=>?_⟩⟩
 ·rw[J6W];exact ok.mid o1
 ·rw[J6C];exact Ticked.refl _
 ·have AY:=(J3t.1 hj).1;have Je:=e3 (by omega);subst Je;have sR:Sep w1 (rowH (some (gi,cap)) 3 1 (ints (dueN S))):=st.sep.right.tail.tail;have Om:gi∈keys (rowH (some (gi,cap)) 3 1 (ints (dueN S))):=by simp[rowH]
  refine⟨sR.lt Om,fun hk=>?_,by simp[Value.ownBlock],Q0G sR j _ (by unfold ints;rw[J4N,hj];rfl)⟩;have A2:=BN gi hk;have AO:=stW.sep.nd;simp only[keys_append,keys_cons,J4c,J5n,rowH,keys_nil] at AO A2;have Cd:=List.nodup_iff_count.1 AO gi;simp only[J6D,J6E,List.count_nil,beq_self_eq_true,if_true] at Cd;have Cn:0<(keys (qhl S.g S.period (S.now+1) rv (dueT S))++S.head.fst::(keys S.P.hl++keys S.ht.hl)).count gi:=List.count_pos_iff.2 (by simpa using A2);simp only[J6D,J6E] at Cn;omega
theorem Z7m{w:World}{S:CO}{fr:List Nat}{N K:Nat}(h:Sep w S.hl)(ok:S.Ok fr N K)(hK:K<1048575) :
  Calls prog 166 #[.pointer (some ⟨S.c,0,none⟩)] w (TickR S fr N K w):=by
 have BK:=h.env.gb;have c2:=CO.c2 h;have ET:=ok.now;have JM:=Z7k (CO.sG h) ok.ov ok.few (by omega) ok.ord;have Br:Hid (∀r w1,Z2x S.g S.period (S.now+1) S.rv S.ts w r w1->∃(rv:OV) (gi:Nat) (ad:Option Addr) (cap:Nat),r=.returned (.slice ad (dueN S).length cap)/\((dueN S).length≠0->ad=some ⟨gi,0,none⟩)/\ovOk rv (dueT S).length/\TRel S N K rv w gi 0 (dueN S).length (.slice none 0 0) w1):=fun r w1 hg=>Z4h h ok hg
 have hl:=Z9B ok;have Bi:Hid (∀rv gi k gk ov wr,ovOk rv (dueT S).length->¬k<(dueN S).length->TRel S N K rv w gi k gk ov wr->TickR S fr N K w (.returned ov) wr):=fun rv gi k gk ov wr BR hk ⟨S1,fr1,AC,EX,AW,Ap,hti⟩=>by
  have e:k=(dueN S).length:=by omega
  subst e;rw[List.drop_length] at EX;rw[J7m] at AW hti;exact⟨rv,S1,fr1,ov,rfl,hti.row,BR,AW,EX.ok,Ap,hti.off⟩
 have CW:Hid (∀rv gi k gk ov wr,k<(dueN S).length->TRel S N K rv w gi k gk ov wr->∃(y:Nat) (p:Pl) (tt pp qt:Nat),y<4294967296/\wr.cell? ⟨gi,k,none⟩=some (.int .i64 y)/\wr.cell? ⟨S.c,1,none⟩=some (.pointer (some ⟨tt,0,none⟩)) /\
   Calls prog 212 #[.pointer (some ⟨tt,0,none⟩),.int .u32 y] wr fun r w1=>r=.returned (.tuple #[.agg #[.int .i64 (p.kind:Int),.int .i64 (p.at_:Int),.int .i64 (p.fac:Int)],.int .i64 0]) /\
    (p.kind≠1->Calls prog 154 #[.pointer (some ⟨S.c,0,none⟩),.agg #[.int .i64 (p.kind:Int),.int .i64 (p.at_:Int),.int .i64 (p.fac:Int)]] (w1.alloc (.cells #[.int .i64 (p.kind:Int),.int .i64 (p.at_:Int),.int .i64 (p.fac:Int)] 54)) fun r w5=>r=.returned (.tuple #[]) /\
     ∃v' w6,(Builtin.append_ #[51,51] 51 #[ov,.slice (some ⟨w5.heap.size,0,none⟩) 1 1]).run prog (w5.alloc (.cells #[.int .u32 y] 58))=.ok v' w6/\TRel S N K rv w gi (k+1) ((dueN S).length-(k+1)) v' w6) /\
    (p.kind=1->(w1.alloc (.cells #[.int .i64 (p.kind:Int),.int .i64 (p.at_:Int),.int .i64 (p.fac:Int)] 54)).cell? ⟨S.c,0,none⟩=some (.pointer (some ⟨pp,0,none⟩))/\(w1.alloc (.cells #[.int .i64 (p.kind:Int),.int .i64 (p.at_:Int),.int .i64 (p.fac:Int)] 54)).cell? ⟨pp,0,none⟩=some (.pointer (some ⟨qt,0,none⟩)) /\
     Calls prog 203 #[.pointer (some ⟨S.c,0,none⟩),.agg #[.int .i64 (p.kind:Int),.int .i64 (p.at_:Int),.int .i64 (p.fac:Int)]] (w1.alloc (.cells #[.int .i64 (p.kind:Int),.int .i64 (p.at_:Int),.int .i64 (p.fac:Int)] 54)).drew fun r w3=>r=.returned (.int .i64 (p.own:Int)) /\
      (w3.cell? ⟨S.c,0,none⟩=some (.pointer (some ⟨pp,0,none⟩))/\w3.cell? ⟨pp,0,none⟩=some (.pointer (some ⟨qt,0,none⟩))/\w3.cell? ⟨w1.heap.size,0,none⟩=some (.int .i64 (p.kind:Int))/\w3.cell? ⟨w1.heap.size,1,none⟩=some (.int .i64 (p.at_:Int))/\w3.cell? ⟨w1.heap.size,2,none⟩=some (.int .i64 (p.fac:Int))) /\
      Calls prog 213 #[.pointer (some ⟨qt,0,none⟩),.int .i64 (p.own:Int)] w3 fun r w4=>r=.returned (.int .i64 0) /\
       (w4.cell? ⟨S.c,0,none⟩=some (.pointer (some ⟨pp,0,none⟩))/\w4.cell? ⟨pp,0,none⟩=some (.pointer (some ⟨qt,0,none⟩))/\w4.cell? ⟨w1.heap.size,0,none⟩=some (.int .i64 (p.kind:Int))/\w4.cell? ⟨w1.heap.size,1,none⟩=some (.int .i64 (p.at_:Int))/\w4.cell? ⟨w1.heap.size,2,none⟩=some (.int .i64 (p.fac:Int))) /\
       Calls prog 154 #[.pointer (some ⟨S.c,0,none⟩),.agg #[.int .i64 (p.kind:Int),.int .i64 (p.at_:Int),.int .i64 (p.fac:Int)]] w4 fun r w5=>r=.returned (.tuple #[]) /\
        ∃v' w6,(Builtin.append_ #[51,51] 51 #[ov,.slice (some ⟨w5.heap.size,0,none⟩) 1 1]).run prog (w5.alloc (.cells #[.int .u32 y] 58))=.ok v' w6/\TRel S N K rv w gi (k+1) ((dueN S).length-(k+1)) v' w6)):=fun rv gi k gk ov wr hk ⟨S1,fr1,AC,EX,AW,Ap,hti⟩=>by
  obtain⟨y,hy⟩:∃y,(dueN S)[k]?=some y:=⟨_,J5t hk⟩
  have LY:(dueN S).drop k=y::(dueN S).drop (k+1):=by
   rw[J5V hk];rw[J5t hk] at hy;cases hy;rfl
  rw[LY] at EX;have ec:S1.c=S.c:=AW.c;obtain⟨p,hp,Cl,Ax⟩:=Z4g Ap.sep EX (by omega);have c1:=CO.c1 Ap.sep;obtain⟨_,_,_,Ak⟩:=hti.cell k y hy;have Hr:∀w5,Z7l S1 N (K+1) y ((dueN S).drop (k+1)) wr w5->∃v' w6,(Builtin.append_ #[51,51] 51 #[ov,.slice (some ⟨w5.heap.size,0,none⟩) 1 1]).run prog (w5.alloc (.cells #[.int .u32 y] 58))=.ok v' w6/\TRel S N K rv w gi (k+1) ((dueN S).length-(k+1)) v' w6:=fun w5 ⟨S2,fr2,m2,t2,s2⟩=>Z9A BK hy (by omega) hl AW Ap hti m2 t2 s2
  unfold TF at Ax;rw[ec] at c1 Ax;refine⟨y,p,S1.t,S1.P.p,S1.P.q.t,Cl,Ak,c1,Ax.mono ?_⟩;rintro r w1⟨rfl,_,_,h1,h2⟩;refine⟨rfl,fun A0=>(h1 A0).mono ?_,fun A0=>?_⟩
  ·rintro r w5⟨rfl,hr⟩;exact⟨rfl,Hr w5 hr⟩
  ·obtain⟨⟨f0,f1,_⟩,hw⟩:=h2 A0;refine⟨f0,f1,hw.mono ?_⟩;rintro r w3⟨rfl,f3,AM⟩;refine⟨rfl,f3,AM.mono ?_⟩;rintro r w4⟨rfl,f4,FK⟩;refine⟨rfl,f4,FK.mono ?_⟩;rintro r w5⟨rfl,hr⟩;exact⟨rfl,Hr w5 hr⟩
 generalize TickR S fr N K w=Q at *
 generalize (dueN S).length=n at *
 clear h ok ET BK;go_enter func166,ntmps166;go_wp2_with fail;refine JM.mono ?_;intro r w1 hg;obtain⟨rv,gi,ad,cap,rfl,KO,BR,Er⟩:=Br.out r w1 hg;have Mb:=Q0a Er;have UQ:=Q0a KO;have Hm:=Q0a BR;have HL:=Q0a hl;clear hg Er KO BR Br JM hl;go_wp2_with fail
 go_loopg [3,17] n (fun gk ov kv wr=>∃k:Nat,kv=.int .i64 k/\k+gk=n/\TRel S N K rv w gi k gk ov wr)
 case atStart=>exact⟨0,rfl,by omega,Mb.out⟩
 case round =>
  obtain⟨k,rfl,AC,hrel⟩:=hrel;have BE:=Q0a AC;clear AC;by_cases Ab:k<n
  ·obtain⟨y,p,tt,pp,qt,Cl,Ak,c1,Ax⟩:=CW.out _ _ _ _ _ _ Ab hrel;have Q8:=UQ.out (by omega);subst Q8;have hw:IntKind.u32.wrap (y:Int)=(y:Int):=Go.IntWalk.u32_in _ (by omega);have HN:Hid (k<=256):=by have:=HL.out;show k<=256;omega
   clear hrel Cl CW Bi c2;by_cases A0:p.kind=1
   ·have Lk:((p.kind:Nat):Int)=1:=by omega
    have Gm:=Q0a A0;go_wp2_with fail;refine Ax.mono ?_;rintro r w2⟨rfl,-,hx⟩;obtain⟨f0,f1,Qi⟩:=hx Gm.out;have VF:=Q0a Qi;clear hx Qi Ax Ak c1;rw[Lk] at *
    have b0:=(Cells.new w2 54 [.int .i64 1,.int .i64 (p.at_:Int),.int .i64 (p.fac:Int)]).cell 0 _ rfl;have b1:=(Cells.new w2 54 [.int .i64 1,.int .i64 (p.at_:Int),.int .i64 (p.fac:Int)]).cell 1 _ rfl;have b2:=(Cells.new w2 54 [.int .i64 1,.int .i64 (p.at_:Int),.int .i64 (p.fac:Int)]).cell 2 _ rfl;have DM:Hid (∀(v:World) b i x,v.cell? ⟨b,i,none⟩=some x->v.drew.cell? ⟨b,i,none⟩=some x):=fun v b i x hv=>hv
    have d0:=DM.out _ _ _ _ f0;have d1:=DM.out _ _ _ _ f1;have e0:=DM.out _ _ _ _ b0;have e1:=DM.out _ _ _ _ b1;have e2:=DM.out _ _ _ _ b2;clear A0 Lk DM;go_wp2_with fail
    go_region_held3 (fun w'=>w'.cell? ⟨S.c,0,none⟩=some (.pointer (some ⟨pp,0,none⟩))/\w'.cell? ⟨pp,0,none⟩=some (.pointer (some ⟨qt,0,none⟩))/\w'.cell? ⟨w2.heap.size,0,none⟩=some (.int .i64 1)/\w'.cell? ⟨w2.heap.size,1,none⟩=some (.int .i64 (p.at_:Int))/\w'.cell? ⟨w2.heap.size,2,none⟩=some (.int .i64 (p.fac:Int))) (first|exact⟨f0,f1,b0,b1,b2⟩|exact⟨d0,d1,e0,e1,e2⟩|exact F3|exact F4)
     (first|(go_at_call 203;refine VF.out.mono ?_;rintro r w3⟨rfl,F3,hx⟩;have HY:=Q0a hx;clear hx)|(go_at_call 213;refine HY.out.mono ?_;rintro r w4⟨rfl,F4,hx⟩;have HZ:=Q0a hx;clear hx))
    all_goals
     obtain⟨g0,g1,g2,g3,g4⟩:=F4;clear d0 d1 e0 e1 e2 f0 f1 b0 b1 b2;go_wp2_with fail;refine HZ.out.mono ?_;rintro r w5⟨rfl,v',w6,r1,r2⟩;have CE:=Q0a r2;clear r2 g0 g1 g2 g3 g4;go_wp2_with (at_builtin;refine Lib.wpList_append_run _ rfl _ _ _ _ rfl _ _ rfl rfl _ _ r1 ?_);go_roundg (n-(k+1))
     case measure=>have:=BE.out;omega
     case rel =>
      have A2:(k:Int)<=256:=by have:=HN.out;omega
      exact⟨k+1,by rw[Go.IntWalk.wrap64_in _ (by omega)];rfl,by omega,CE.out⟩
   ·have Aw:(((p.kind:Nat):Int)==1)=false:=by simp;omega
    have Gm:=Q0a A0;go_wp2_with fail;refine Ax.mono ?_;rintro r w2⟨rfl,hx,-⟩;have HX:=Q0a (hx Gm.out);clear hx Ax Ak c1 A0;go_wp2_with fail;refine HX.out.mono ?_;rintro r w5⟨rfl,v',w6,r1,r2⟩;have CE:=Q0a r2;clear r2;go_wp2_with (at_builtin;refine Lib.wpList_append_run _ rfl _ _ _ _ rfl _ _ rfl rfl _ _ r1 ?_);go_roundg (n-(k+1))
    case measure=>have:=BE.out;omega
    case rel =>
     have A2:(k:Int)<=256:=by have:=HN.out;omega
     exact⟨k+1,by rw[Go.IntWalk.wrap64_in _ (by omega)];rfl,by omega,CE.out⟩
  ·have HR:=Q0a (Bi.out _ _ _ _ _ _ Hm.out Ab hrel);clear hrel CW Bi;go_wp2_with fail
   (try go_ret);exact HR.out
end Go.Proofs.YtfidemmgofcnmaaGreatDoor
