/- SpaceRevokes returns true at every input. No condition. Part of its proof. -/
import Derived.Test.YtlakjlmaboioiaaGreatDoorSv12
import Derived.RangeFuncWrites
import Derived.Maps.OwnIn
import Derived.Sort.WalkB12
import Derived.Lib.SlicesMore
import Derived.Laws.OwnMore
import Derived.Shelf.RegionOpenPlain
set_option maxHeartbeats 4000000
set_option maxRecDepth 1000000
set_option linter.unusedVariables false
namespace Go.Proofs.YtlakjlmaboioiaaGreatDoor
open Go.RowKit Go.Proofs.Tryz
theorem Step.drewN {w w':World} {H H':HL} (h:Step H H' w w') (m:Nat):Step H H' w (w'.drewN m):=⟨h.sep.drewN m,⟨h.chg.os,h.chg.tape,h.chg.output,h.chg.size,h.chg.block⟩,h.new⟩
theorem Step.cons {w w':World} {p:Nat×(Obj->Prop)} {H H':HL} (h:Sep w (p::H)) (s:Step H H' w w'):Step (p::H) (p::H') w w':=by
 have:=Step.frame [p] [] (by simpa using h) s
 simpa using this
def Q2i (g per now bx b0:Nat) (ts:List (Nat×Nat)) (k j:Nat) (rv:OV) (ro:RV):HL:=
 qhl g per now rv (ts.drop k)++(bx,isC 139 [ptr g])::(b0,isC 36 [lvOf ro j])::rowH ro 3 1 (ints ((ts.take j).map Prod.fst))
def TickS (H0:HL) (w:World) (g per now bx b0:Nat) (ts:List (Nat×Nat)) (k j:Nat) (W:World):Prop:=
 ∃rv ro,ovOk rv (ts.drop k).length/\rvOk ro j/\Step H0 (Q2i g per now bx b0 ts k j rv ro) w W
theorem TickS.drewN {H0:HL} {w W:World} {g per now bx b0:Nat} {ts:List (Nat×Nat)} {k j:Nat} (h:TickS H0 w g per now bx b0 ts k j W) (m:Nat):TickS H0 w g per now bx b0 ts k j (W.drewN m):=by
 obtain⟨rv,ro,h1,h2,h3⟩:=h;exact⟨rv,ro,h1,h2,h3.drewN m⟩
theorem Z0m (g per now bx b0:Nat) (ts:List (Nat×Nat)) (k j:Nat) (rv:OV) (ro:RV):(g,isC 267 [.int .i64 per,.int .i64 now,ovOf rv (ts.drop k).length])∈Q2i g per now bx b0 ts k j rv ro:=by
 simp [Q2i,qhl]
theorem Q7Y {ts:List (Nat×Nat)} {k:Nat} {x:Nat×Nat} (h:ts[k]?=some x):(ts.take (k+1)).map Prod.fst=(ts.take k).map Prod.fst++[x.1]:=by
 have hk:=J2c.1 h;rw [J6c hk.1,J5p,hk.2];rfl
theorem Z5J {ts:List (Nat×Nat)} {k:Nat} {x:Nat×Nat} (h:ts[k]?=some x):ts.drop k=x::ts.drop (k+1):=by
 have hk:=J2c.1 h;rw [J4F hk.1,hk.2]
theorem TickS.front {H0:HL} {w W:World} {g per now bx b0:Nat} {ts:List (Nat×Nat)} {k j:Nat} (h:TickS H0 w g per now bx b0 ts k j W) {x:Nat×Nat} (hx:ts[k]?=some x) (hd:x.2<=now):J1a g now x.1 W (TickS H0 w g per now bx b0 ts (k+1) j):=by
 obtain⟨rv,ro,h1,h2,st⟩:=h;have Ft:=Z5J hx;obtain⟨b,off,cap,rfl⟩:∃b off cap,rv=some (b,off,cap):=by
  cases rv with
  | none=>rw [Ft] at h1;exact absurd h1 (by simp [ovOk])
  | some q=>exact⟨q.1,q.2.1,q.2.2,rfl⟩
 have hc:=st.sep.cells (Z0m g per now bx b0 ts k j (some (b,off,cap)) ro);have Ac:(ts.drop k).length=(ts.drop (k+1)).length+1:=by rw [Ft];rfl
 rw [Ac] at h1 hc;obtain⟨n,hn⟩:∃n,n=(ts.drop (k+1)).length:=⟨_,rfl⟩
 have O7:Q1j (ts.drop k)=[.int .i64 (x.1:Int),.int .i64 (x.2:Int)]++Q1j (ts.drop (k+1)):=by rw [Ft];rfl
 -- the row ahead
 have e1:Q2i g per now bx b0 ts k j (some (b,off,cap)) ro=(g,isC 267 [.int .i64 per,.int .i64 now,ovOf (some (b,off,cap)) ((ts.drop (k+1)).length+1)])::(ovH (some (b,off,cap)) 298 2 ([.int .i64 (x.1:Int),.int .i64 (x.2:Int)]++Q1j (ts.drop (k+1)))++((bx,isC 139 [ptr g])::(b0,isC 36 [lvOf ro j])::rowH ro 3 1 (ints ((ts.take j).map Prod.fst)))):=by
  unfold Q2i qhl;rw [Ac,O7];rfl
 rw [e1] at st;obtain⟨R,hR⟩:∃R:HL,R=((bx,isC 139 [ptr g])::(b0,isC 36 [lvOf ro j])::rowH ro 3 1 (ints ((ts.take j).map Prod.fst))):=⟨_,rfl⟩
 rw [<- hR] at st;have sR:=st.sep.tail;have cell:∀i v,([.int .i64 (x.1:Int),.int .i64 (x.2:Int)]++Q1j (ts.drop (k+1)))[i]?=some v->W.cell? ⟨b,off+i,none⟩=some v:=fun i v hv=>Z0f sR.left i v hv
 obtain⟨AH,Hq⟩:=h1;refine⟨b,off,n,cap,x.2,?_,by omega,Hq,cell 0 _ rfl,cell 1 _ rfl,hd,?_⟩
 ·rw [hn];exact hc.cell 2 _ rfl
 ·-- taken off
  have key:∀rv',Step (ovH (some (b,off,cap)) 298 2 ([.int .i64 (x.1:Int),.int .i64 (x.2:Int)]++Q1j (ts.drop (k+1)))++R) (ovH rv' 298 2 (Q1j (ts.drop (k+1)))++R) W W->ovOk rv' (ts.drop (k+1)).length ->
    TickS H0 w g per now bx b0 ts (k+1) j (W.setCell ⟨g,2,none⟩ (ovOf rv' (ts.drop (k+1)).length)):=fun rv' s Bi=>by
   have s2:=Step.cons st.sep s;have s23:=s2.trans (Sep.set (A:=[]) s2.sep 2 (ovOf rv' (ts.drop (k+1)).length));refine⟨rv',ro,Bi,h2,?_⟩;have:=st.trans s23;unfold Q2i qhl;rw [<- hR];exact this
  by_cases Cd:cap=1
  ·subst Cd;have h0:(ts.drop (k+1)).length=0:=by omega
   have Ch:ts.drop (k+1)=[]:=J4c h0;have:=key (some (b,off,0)) (by
    rw [Ch];have:=Z7L (w:=W) (B:=R) (g:=b) (off:=off) (T:=298) (size:=2) (x:=[.int .i64 (x.1:Int),.int .i64 (x.2:Int)]) (by rw [Ch] at sR;simpa [Q1j] using sR)
    simpa [Q1j] using this) (by rw [h0];exact⟨J1L _,by unfold maxLen;omega⟩)
   rw [if_pos rfl,hn];exact this
  ·have:=key (some (b,off+2,cap-1)) (Z9T sR rfl (by omega)) ⟨by omega,by omega⟩;rw [if_neg Cd,hn];exact this
theorem TickS.late {H0:HL} {w W:World} {g per now bx b0:Nat} {ts:List (Nat×Nat)} {k j:Nat} (h:TickS H0 w g per now bx b0 ts k j W) (hd:∀x,ts[k]?=some x->now<x.2):Late g now W:=by
 obtain⟨rv,ro,h1,h2,st⟩:=h;have hc:=(st.sep.cells (Z0m g per now bx b0 ts k j rv ro)).cell 2 _ rfl;cases hx:ts[k]? with
 | none =>
  have hl:(ts.drop k).length=0:=by
   have:=List.getElem?_eq_none_iff.1 hx;rw [J4e];omega
  rw [hl] at hc;left;cases rv with
  | none=>exact⟨_,_,hc⟩
  | some q=>exact⟨_,_,hc⟩
 | some x =>
  right;have Ft:=Z5J hx;obtain⟨b,off,cap,rfl⟩:∃b off cap,rv=some (b,off,cap):=by
   cases rv with
   | none=>rw [Ft] at h1;exact absurd h1 (by simp [ovOk])
   | some q=>exact⟨q.1,q.2.1,q.2.2,rfl⟩
  have Ac:(ts.drop k).length=(ts.drop (k+1)).length+1:=by rw [Ft];rfl
  rw [Ac] at hc;have O7:Q1j (ts.drop k)=[.int .i64 (x.1:Int),.int .i64 (x.2:Int)]++Q1j (ts.drop (k+1)):=by rw [Ft];rfl
  refine⟨b,off,_,cap,x.2,hc,?_,hd x hx⟩;have hs:Sep W (ovH (some (b,off,cap)) 298 2 (Q1j (ts.drop k))):=st.sep.sub (by
   unfold Q2i qhl;exact (J2B _ _).trans ((J3R _).trans (J2D _ _) |>.append_right _ |>.trans (J3R _)))
  exact Z0f hs 1 _ (by rw [O7];rfl)
theorem TickS.row {H0:HL} {w W:World} {g per now bx b0:Nat} {ts:List (Nat×Nat)} {k:Nat} (h:TickS H0 w g per now bx b0 ts (k+1) k W) {x:Nat×Nat} (hx:ts[k]?=some x) (o:Obj) :
  ∃v,W.cell? ⟨b0,0,none⟩=some v/\W.frozen? ⟨b0,0,none⟩=false/\(W.alloc o).ownsRow 0 3 1 v k (ints ((ts.take k).map Prod.fst))/\∀v' W1,W1.ownsRow 0 3 1 v' (k+1) (ints ((ts.take k).map Prod.fst)++[.int .i64 (x.1:Int)])->(W.alloc o).grownBy W1 v.ownBlock->(v'.ownBlock=v.ownBlock∨v'.ownBlock=some (W.alloc o).heap.size) ->
   (∃u,W1.cell? ⟨b0,0,none⟩=some u)/\W1.frozen? ⟨b0,0,none⟩=false/\TickS H0 w g per now bx b0 ts (k+1) (k+1) (W1.setCell ⟨b0,0,none⟩ v'):=by
 obtain⟨rv,ro,h1,h2,st⟩:=h;have hk:=(J2c.1 hx).1;have hc:=(st.sep.cells (b:=b0) (T:=36) (cs:=[lvOf ro k]) (by simp [Q2i]))
 have hl:(ints ((ts.take k).map Prod.fst)).length=k*1:=by simp [ints];omega
 have sA:=st.sep.alloc o;obtain⟨A,hA⟩:∃A:HL,A=qhl g per now rv (ts.drop (k+1))++[(bx,isC 139 [ptr g]),(b0,isC 36 [lvOf ro k])]:=⟨_,rfl⟩
 have e1:Q2i g per now bx b0 ts (k+1) k rv ro=A++rowH ro 3 1 (ints ((ts.take k).map Prod.fst))++[]:=by
  rw [hA];unfold Q2i;simp
 have A0:=Q7E ((e1 ▸ sA).left.right) h2 hl;refine⟨lvOf ro k,hc.cell 0 _ rfl,hc.free 0,A0,fun v' W1 ho hg hb=>?_⟩;obtain⟨ro',rfl,Df,s2⟩:=Q2l (A:=A) (B:=[]) (e1 ▸ sA) ho hg hb;have Bo:=s2.sep.cells (b:=b0) (T:=36) (cs:=[lvOf ro k]) (by rw [hA];simp);refine⟨⟨_,Bo.cell 0 _ rfl⟩,Bo.free 0,rv,ro',h1,Df,?_⟩;have s1:Step H0 (A++rowH ro 3 1 (ints ((ts.take k).map Prod.fst))++[]) w (W.alloc o):=by
  rw [<- e1];exact st.trans (st.sep.grown ((Below.refl _ _).alloc (J1L _) o))
 have s12:=s1.trans s2;have s3:=Sep.set (A:=qhl g per now rv (ts.drop (k+1))++[(bx,isC 139 [ptr g])]) (b:=b0) (T:=36) (cs:=[lvOf ro k]) (B:=rowH ro' 3 1 (ints ((ts.take k).map Prod.fst)++[.int .i64 (x.1:Int)])) (by rw [hA] at s12;simpa using s12.sep) 0 (lvOf ro' (k+1));have s4:=(s12.perm (J5f _) (K':=qhl g per now rv (ts.drop (k+1))++[(bx,isC 139 [ptr g])]++(b0,isC 36 [lvOf ro k])::rowH ro' 3 1 (ints ((ts.take k).map Prod.fst)++[.int .i64 (x.1:Int)])) (by rw [hA];simp)).trans s3;have e5:ints ((ts.take (k+1)).map Prod.fst)=ints ((ts.take k).map Prod.fst)++[.int .i64 (x.1:Int)]:=by
  rw [Q7Y hx];simp [ints]
 unfold Q2i;rw [e5]
 simpa using s4
def Bk (r:Loop) (D:Nat) (W:World):Prop:=W.heap[D+1]?=some (.loop r)/\W.heap[D]?=some (.deferred (some []))
theorem Bk.set {r:Loop} {D:Nat} {W:World} (h:Bk r D W) {g:Nat} (hg:g<D) (i:Nat) (v:Value):Bk r D (W.setCell ⟨g,i,none⟩ v):=
 ⟨(Below.heap_setCell _ _ _ _ (fun e=>by have e':D+1=g:=e;omega)).trans h.1,(Below.heap_setCell _ _ _ _ (fun e=>by have e':D=g:=e;omega)).trans h.2⟩
theorem Z0n {F:Fence} {n:Nat} {P:Program} {g:Operand} {ps:Array Tmp} {assign body:Code} {Q:Exit->Act->World->Prop} {a:Act} {w:World}
  (Ja:F.round=none) (h1:1<=n) {gf:Nat} {lb:Array Value} (hg:a.eval g=.func (.func gf) #[] lb) (hFg:F.fn gf) (eg:∀args w,(callFunc gf args).run P w=.ok (.enter gf args) w)
  {enc:Nat->Array Value} (FV:∀k,(enc k).size=ps.size) (T T1:Nat->World->Prop) (N:Nat)
  (hT:∀k W l o',T k W->w.heap.size<=l->(∃o:Obj,W.heap[l]?=some o/\o.isCells=false)->T k (W.putObj l o')) (hT1:∀k W l o',T1 k W->w.heap.size<=l->(∃o:Obj,W.heap[l]?=some o/\o.isCells=false)->T1 k (W.putObj l o')) (hTa:∀W o,T 0 W->T 0 (W.alloc o))
  (hiter:∀(r:Loop) (D:Nat) (W:World),w.heap.size<=D->T 0 W->Bk r D W ->
   (∀k W1,k<N->T1 k W1->Bk r D W1->YieldAt F (n-1-1) P (D+1) (enc k) W1 fun e W'=>e=.returned (.bool true)/\T (k+1) W'/\Bk r D W') ->
   CallsIn F (n-1) P gf (#[.func (.yield (D+1)) #[] #[]]++lb) W fun e W'=>(∃v,e=.returned v)/\T N W'/\Bk r D W')
  (h0:T 0 w) (a₁:Nat->Act)
  (hassign:∀(l k:Nat) (W:World) (K:Act->World->Prop),K (a₁ k) W ->
   assign.wpIn (F.inRound l) (n-1-1) P (Exit.then K (fun _ _ _=>False)) {tmps:=(ps.zip (enc k)).foldl (fun t (p,v)=>t.setIfInBounds p v) a.tmps,defers:=[]} W)
  (hbody:∀(l k:Nat) (W:World),T1 k W->k<N->body.wpIn (F.inRound l) (n-1-1) P (fun e _ W'=>e=.normal/\KeepsFrom w.heap.size W W'/\T (k+1) W') (a₁ k) W)
  (B5:∀(D:Nat) (W:World),w.heap.size<=D->T N W->W.heap[D]?=some (.deferred (some []))->Q .normal {a with defers:={target:=.collected D,args:=#[]}::a.defers} W) :
  (Code.rangeFunc g ps assign body).wpIn F n P Q a w:=by
 refine wpIn_rangeFunc fun fn Fm=>?_
 rw [Ja]
 let r:LoopState->Loop:=fun st=>{state:=st,pending:=none,fn,tmps:=a.tmps,params:=ps,assign,body,defers:=w.heap.size}
 let W1:World:=(w.alloc (.deferred (some []))).alloc (.loop (r .ready))
 have bk1:Bk (r .ready) w.heap.size W1:=by
  constructor
  ·have:=World.alloc_heap_new (w.alloc (.deferred (some []))) (.loop (r .ready))
   rwa [World.size_alloc] at this
  ·exact (Below.heap_alloc _ _ _ (by simp)).trans (World.alloc_heap_new w _)
 refine⟨w.heap.size+1,[{target:=.collected w.heap.size,args:=#[]}],W1,{target:=.fn (.func gf) lb,args:=#[.func (.yield (w.heap.size+1)) #[] #[]]},W1,gf,
  #[.func (.yield (w.heap.size+1)) #[] #[]]++lb,W1,run_enterLoop_outer _ _ _ _ _,?_,?_,?_,fun _=>h1,?_⟩
 ·simp only [resolve,hg];simp [go_sem]
 ·intro f' Ia;simp [Target.leads] at Ia;subst Ia;exact hFg
 ·simp [invoke,go_sem,eg]
 refine (hiter (r .ready) w.heap.size W1 (J1L _) (hTa _ _ (hTa _ _ h0)) bk1 ?_).mono ?_
 ·-- a round
  intro k W hk ht bk;have Ab:w.heap.size+1<W.heap.size:=(J6h.1 bk.1).1;refine⟨fn,_,assign,body,run_yield bk.1 (FV k),roundIn_of_wpIn Fm (hassign _ k W _ ⟨_,run_beginRound bk.1 rfl,?_⟩)⟩
  let W2:World:=W.putObj (w.heap.size+1) (.loop (r .busy))
  have bk2:Bk (r .busy) w.heap.size W2:=⟨World.putObj_heap_same Ab,(World.putObj_heap_other (by omega)).trans bk.2⟩
  have II:T1 k W2:=hT1 k W _ _ ht (by omega) ⟨_,bk.1,rfl⟩;refine wpIn_mono (hbody _ k W2 II hk) ?_;rintro e a3 W3 ⟨rfl,IH,Lx⟩;have bk3:Bk (r .busy) w.heap.size W3:=⟨IH.same _ _ (by omega) bk2.1 rfl,IH.same _ _ (J1L _) bk2.2 rfl⟩
  refine⟨_,_,run_endRound none bk3.1,rfl,hT _ _ _ _ Lx (by omega) ⟨_,bk3.1,rfl⟩,World.putObj_heap_same (J6h.1 bk3.1).1,(World.putObj_heap_other (by omega)).trans bk3.2⟩
 ·rintro e W2 ⟨⟨v,rfl⟩,ht,bk⟩;exact⟨none,_,run_endLoop bk.1 (by simp [r]),B5 _ _ (J1L _) (hT _ _ _ _ ht (by omega) ⟨_,bk.1,rfl⟩) ((World.putObj_heap_other (by omega)).trans bk.2)⟩
attribute [local go_sem] Oper.semAt_some
theorem Z8e (c:Nat) (w:World):Calls prog 215 #[.pointer (some ⟨c,0,none⟩)] w fun r w' =>
  r=.returned (.func (.func 252) #[] #[.pointer (some ⟨w.heap.size,0,none⟩)])/\w'=w.alloc (.cells #[.pointer (some ⟨c,0,none⟩)] 139):=by
 go_enter func215,ntmps215
 go_wp2
 go_ret;exact⟨rfl,rfl⟩
def dueK (now:Nat) (ts:List (Nat×Nat)):Nat:=(ts.takeWhile fun x=>decide (x.2<=now)).length
theorem Q8P (now:Nat) (ts:List (Nat×Nat)):ts.take (dueK now ts)=ts.takeWhile (fun x=>decide (x.2<=now)):=by
 have h:ts.takeWhile (fun x=>decide (x.2<=now))++ts.dropWhile (fun x=>decide (x.2<=now))=ts:=J5H;unfold dueK
 conv=>lhs;rw [<- h]
 rw [J4g (by simp [h]),h,J5V]
def Z1D (g per now:Nat) (rv:OV) (ts:List (Nat×Nat)) (w:World) (r:Ending) (w':World):Prop:=
 ∃rv' ro bx b0,r=.returned (lvOf ro (dueK now ts))/\ovOk rv' (ts.drop (dueK now ts)).length/\rvOk ro (dueK now ts)/\Step (qhl g per (now-1) rv ts) (Q2i g per now bx b0 ts (dueK now ts) (dueK now ts) rv' ro) w w'
theorem J0g (now:Nat) (ts:List (Nat×Nat)):dueK now ts<=ts.length:=by
 have h:ts.takeWhile (fun x=>decide (x.2<=now))++ts.dropWhile (fun x=>decide (x.2<=now))=ts:=J5H;have:=congrArg List.length h;rw [J2v] at this;unfold dueK;omega
theorem J0h {now:Nat} {ts:List (Nat×Nat)} {k:Nat} {x:Nat×Nat} (hk:k<dueK now ts) (hx:ts[k]?=some x):x.2<=now:=by
 have h:(ts.take (dueK now ts))[k]?=some x:=by rw [J3P,if_pos hk];exact hx
 rw [Q8P] at h;have:=J4a h;have hm:∀(l:List (Nat×Nat)),∀y∈l.takeWhile (fun x=>decide (x.2<=now)),y.2<=now:=by
  intro l
  induction l with
  | nil=>simp
  | cons z r ih =>
   intro y hy;rw [List.takeWhile_cons] at hy;split at hy
   ·rename_i hc;rcases J1Q.1 hy with rfl|hy
    ·simpa using hc
    ·exact ih y hy
   ·cases hy
 exact hm _ _ this
theorem Z8f {now:Nat} {ts:List (Nat×Nat)} (DX:ts.Pairwise (fun a b=>a.2<=b.2)) {x:Nat×Nat} (hx:ts[dueK now ts]?=some x):now<x.2:=by
 have h:ts.takeWhile (fun x=>decide (x.2<=now))++ts.dropWhile (fun x=>decide (x.2<=now))=ts:=J5H;rw [<- h] at hx;unfold dueK at hx;rw [J5a (by rw [h];exact J1L _)] at hx;exact Q8H DX now x (J4a hx)
theorem Z0o {W:World} {g per now bx b0:Nat} {ts:List (Nat×Nat)} {k j:Nat} {rv:OV} {ro:RV} (h:Sep W (Q2i g per now bx b0 ts k j rv ro)) {b:Nat} (hb:b∈keys (Q2i g per now bx b0 ts k j rv ro)):∃cs T f,W.heap[b]?=some (.cells cs T f):=by
 obtain⟨p,hp,rfl⟩:=J1R.1 hb;obtain⟨o,ho,hq⟩:=h.at' p hp;have key:(∃T cs,p.2=isC T cs)∨(∃T n cs,p.2=isR T n cs)∨(∃T m off cs,p.2=isS T m off cs):=by
  unfold Q2i qhl at hp;simp only [J3X,J1Q,J2A] at hp;rcases hp with rfl|hp|rfl|rfl|hp
  ·exact .inl ⟨_,_,rfl⟩
  ·cases rv with
   | none=>cases hp
   | some q =>
    simp only [ovH,J1Q,J2h,or_false] at hp;subst hp;exact .inr (.inr ⟨_,_,_,_,rfl⟩)
  ·exact .inl ⟨_,_,rfl⟩
  ·exact .inl ⟨_,_,rfl⟩
  ·cases ro with
   | none=>cases hp
   | some q =>
    simp only [rowH,J1Q,J2h,or_false] at hp;subst hp;exact .inr (.inl ⟨_,_,_,rfl⟩)
 rcases key with ⟨T,cs,e⟩|⟨T,n,cs,e⟩|⟨T,m,off,cs,e⟩
 ·rw [e] at hq;subst hq;exact⟨_,_,_,ho⟩
 ·rw [e] at hq;obtain⟨Ah,rfl,_⟩:=hq;exact⟨_,_,_,ho⟩
 ·rw [e] at hq;obtain⟨Ah,rfl,_⟩:=hq;exact⟨_,_,_,ho⟩
theorem Z1E {H0:HL} {w W:World} {g per now bx b0:Nat} {ts:List (Nat×Nat)} {k j:Nat} {rv:OV} {ro:RV} (st:Step H0 (Q2i g per now bx b0 ts k j rv ro) w W) {l:Nat} (o':Obj) (hl:w.heap.size<=l) (Cn:GB<=w.heap.size) (ho:∃o:Obj,W.heap[l]?=some o/\o.isCells=false):Step H0 (Q2i g per now bx b0 ts k j rv ro) w (W.putObj l o'):=by
 obtain⟨o,ho,O1⟩:=ho;have hn:l∉keys (Q2i g per now bx b0 ts k j rv ro):=fun hb=>by
  obtain⟨cs,T,f,hc⟩:=Z0o st.sep hb;rw [hc] at ho;cases ho;cases O1
 have Aa:∀b,b≠l->(W.putObj l o').heap[b]?=W.heap[b]?:=fun b hb=>World.putObj_heap_other hb
 refine⟨st.sep.same (fun b hb=>Aa b (fun e=>hn (e ▸ hb))) (st.sep.env.same (fun b hb=>Aa b (by omega)) (by have:=st.sep.env.gb;simpa [World.putObj] using this)),?_,st.new⟩;exact⟨st.chg.os,st.chg.tape,st.chg.output,by have:=st.chg.size;simpa [World.putObj] using this,fun b hb hF=>(Aa b (by omega)).trans (st.chg.block b hb hF)⟩
theorem TickS.put {H0:HL} {w W:World} {g per now bx b0:Nat} {ts:List (Nat×Nat)} {k j:Nat} (h:TickS H0 w g per now bx b0 ts k j W) {l:Nat} (o':Obj) (hl:w.heap.size<=l) (Cn:GB<=w.heap.size) (ho:∃o:Obj,W.heap[l]?=some o/\o.isCells=false):TickS H0 w g per now bx b0 ts k j (W.putObj l o'):=by
 obtain⟨rv,ro,h1,h2,st⟩:=h;exact⟨rv,ro,h1,h2,Z1E st o' hl Cn ho⟩
theorem Z5K {W w1:World} {B b0 n:Nat} {T:TypeId} {v v':Value} {xs:List Value} {o:Obj} (A0:(W.alloc o).ownsRow 0 T 1 v n xs) (hg:(W.alloc o).grownBy w1 v.ownBlock) (hb:b0<B):KeepsFrom B W (w1.setCell ⟨b0,0,none⟩ v'):=by
 refine⟨by have:=hg.size;simp at this;simp [World.setCell];omega,fun k o2 hB hk O1=>?_⟩;have Ab:=(J6h.1 hk).1;refine (Below.heap_setCell _ _ _ _ (fun e=>by have e':k=b0:=e;omega)).trans ?_;have Bz:(W.alloc o).heap[k]?=some o2:=(Below.heap_alloc _ _ _ Ab).trans hk;refine (hg.block k (by simp;omega) (fun e=>?_)).trans Bz;rcases A0.2 with ⟨rfl,_⟩|⟨g,cap,Ah,rfl,_,Cn,_⟩
 ·cases e
 ·have:k=g:=by simpa [Value.ownBlock] using e
  subst this;rw [Cn] at Bz;cases Bz;cases O1
theorem Z8g (F:Fence) (hF:Hid (F=Fence.wide)) (n:Nat) (hn:4<=n) {w:World} {g per now:Nat} {rv:OV} {ts:List (Nat×Nat)} (h:Sep w (qhl g per now rv ts)) (Bi:ovOk rv ts.length) (hl:ts.length<=256) (EL:now<1048576) (DX:ts.Pairwise (fun a b=>a.2<=b.2)) :
  CallsIn F n prog 134 #[.pointer (some ⟨g,0,none⟩)] w (Z1D g per (now+1) rv ts w):=by
 have h1:F.fn 134:=by rw [hF.out];trivial
 have h2:F.fn 252:=by rw [hF.out];trivial
 have h3:F.fn 215:=by rw [hF.out];trivial
 have Ja:F.round=none:=by rw [hF.out];rfl
 have CH:1<=n:=by omega
 obtain⟨i0,hi,BN,Bh,Bf⟩:=info_parts infoint;have hc:Cells w g 267 [.int .i64 per,.int .i64 now,ovOf rv ts.length]:=h.cells (by simp [qhl]);have c1:=hc.cell 1 _ rfl;have f1:=hc.free 1;have Ab:=hc.lt;have hw:IntKind.i64.wrap ((now:Int)+1)=(now:Int)+1:=Go.IntWalk.i64_in _ (by omega);have EE:wrap64 ((now:Int)+1)=(now:Int)+1:=Go.IntWalk.wrap64_in _ (by omega);obtain⟨W5,Ot⟩:∃W5,W5=(((w.setCell ⟨g,1,none⟩ (.int .i64 ((now:Int)+1))).alloc (.cells #[.slice none 0 0] 36)).alloc (.cells #[.pointer (some ⟨g,0,none⟩)] 139)):=⟨_,rfl⟩
 have Bv:(w.setCell ⟨g,1,none⟩ (.int .i64 ((now:Int)+1))).heap.size=w.heap.size:=by simp [World.setCell]
 have T0:Hid (TickS (qhl g per now rv ts) w g per (now+1) (w.heap.size+1) w.heap.size ts 0 0 W5/\W5.heap.size=w.heap.size+2):=by
  have s1:Step (qhl g per now rv ts) (qhl g per (now+1) rv ts) w (w.setCell ⟨g,1,none⟩ (.int .i64 ((now:Int)+1))):=by
   have:=Sep.set (A:=[]) (B:=ovH rv 298 2 (Q1j ts)) h 1 (.int .i64 ((now:Int)+1));exact this
  have s2:=s1.sep.new 36 [.slice none 0 0];rw [Bv] at s2;have s3:=s2.sep.new 139 [.pointer (some ⟨g,0,none⟩)];rw [World.size_alloc,Bv] at s3;have s4:=(s1.trans s2).trans s3;rw [Ot];refine⟨⟨rv,none,Bi,rfl,s4.perm (J5f _) ?_⟩,by simp [World.setCell]⟩;unfold Q2i;show List.Perm (_::_::qhl g per (now+1) rv ts) (qhl g per (now+1) rv ts++_::_::[]);refine (J4z (l₁:=[_,_]) (l₂:=qhl g per (now+1) rv ts)).trans ?_;exact J5f _
 clear Bv;refine callsIn_of_wp_marks func134 rfl h1 ?_ Ja;simp only [ntmps134,J4r,J2w,J4l,Nat.reduceAdd,Nat.reduceSub,Array.replicate_succ,Array.replicate_zero,List.push_toArray,List.append_toArray,J3W,J3X]
 gi_wp2_with (gi_at_call 215;refine (Z9K hF (Z8e g _)).mono ?_;rintro e w' ⟨rfl,rfl⟩)
 rw [<- Ot];clear Ot;have Cn:=h.env.gb;have UX:=T0.out.2;have UT:=J0g (now+1) ts;have AB:∀k,k<dueK (now+1) ts->∃x,ts[k]?=some x:=fun k hk=>⟨_,J4d (by omega)⟩
 refine Z0n Ja CH (gf:=252) (lb:=#[.pointer (some ⟨w.heap.size+1,0,none⟩)]) rfl h2 (enters_of func252 (by kernel_rfl) rfl)
  (enc:=fun k=>#[.int .i64 (((ts[k]?.getD (0,0)).1:Nat):Int)]) (fun _=>rfl)
  (fun k W=>k<=dueK (now+1) ts/\TickS (qhl g per now rv ts) w g per (now+1) (w.heap.size+1) w.heap.size ts k k W)
  (fun k W=>k<dueK (now+1) ts/\TickS (qhl g per now rv ts) w g per (now+1) (w.heap.size+1) w.heap.size ts (k+1) k W)
  (dueK (now+1) ts)
  (fun k W l o' ht hl ho=>⟨ht.1,ht.2.put o' (by omega) Cn ho⟩) (fun k W l o' ht hl ho=>⟨ht.1,ht.2.put o' (by omega) Cn ho⟩)
  (fun W o ht=>⟨ht.1,by obtain⟨a1,a2,a3,a4,st⟩:=ht.2;exact⟨a1,a2,a3,a4,st.trans (st.sep.grown ((Below.refl _ _).alloc (J1L _) o))⟩⟩)
  ?iter ⟨J3O _,T0.out.1⟩
  (fun k=>{tmps:=#[.pointer (some ⟨g,0,none⟩),undef,.slice none 0 0,.pointer (some ⟨w.heap.size,0,none⟩),.int .i64 (((ts[k]?.getD (0,0)).1:Nat):Int),.pointer (some ⟨g,0,none⟩),.bool false,.pointer (some ⟨g,0,none⟩),.pointer (some ⟨g,0,none⟩),.pointer (some ⟨g,1,none⟩),.int .i64 now,.int .i64 ((now:Int)+1),.pointer (some ⟨g,0,none⟩),.pointer (some ⟨g,1,none⟩),.pointer (some ⟨g,0,none⟩),.func (.func 252) #[] #[.pointer (some ⟨w.heap.size+1,0,none⟩)],.int .i64 (((ts[k]?.getD (0,0)).1:Nat):Int),undef,undef,undef,undef,undef],defers:=[]}) ?assign ?body ?done
 case iter =>
  intro r D W hD ht bk hy;refine J1b F hF (n-1) (by omega) (D+1) (w.heap.size+1) g (now+1) (dueK (now+1) ts) (fun k=>(ts[k]?.getD (0,0)).1)
   (fun k W=>(k<=dueK (now+1) ts/\TickS (qhl g per now rv ts) w g per (now+1) (w.heap.size+1) w.heap.size ts k k W)/\Bk r D W)
   (fun k W=>(k<dueK (now+1) ts/\TickS (qhl g per now rv ts) w g per (now+1) (w.heap.size+1) w.heap.size ts (k+1) k W)/\Bk r D W) W
   (fun k W hj=>?_) (fun k W m hj=>⟨⟨hj.1.1,hj.1.2.drewN m⟩,hj.2⟩) (fun k W m hj=>⟨⟨hj.1.1,hj.1.2.drewN m⟩,hj.2⟩) (fun k W1 hk hj=>hy k W1 hk hj.1 hj.2) ⟨ht,bk⟩
  obtain⟨⟨hk,Nf⟩,AC⟩:=hj;obtain⟨rv',ro',q1,q2,st⟩:=Nf;have QX:=st.sep.cells (Z0m g per (now+1) (w.heap.size+1) w.heap.size ts k k rv' ro');have ER:=st.sep.cells (b:=w.heap.size+1) (T:=139) (cs:=[ptr g]) (by simp [Q2i]);refine⟨ER.cell 0 _ rfl,QX.cell 1 _ (by rw [Int.natCast_add];rfl),QX.free 2,hk,fun Iu=>?_,fun e=>?_⟩
  ·obtain⟨x,hx⟩:=AB k Iu;have Cz:=TickS.front ⟨rv',ro',q1,q2,st⟩ hx (J0h Iu hx);obtain⟨b,off,len,cap,at_,p1,p2,p3,p4,p5,p6,p7⟩:=Cz.it;have NJ:(ts[k]?.getD (0,0)).1=x.1:=by rw [hx];rfl
   exact⟨b,off,len,cap,at_,p1,p2,p3,by rw [NJ];exact p4,p5,p6,⟨⟨Iu,p7⟩,AC.set (by omega) 2 _⟩⟩
  ·exact TickS.late ⟨rv',ro',q1,q2,st⟩ fun x hx=>Z8f DX (by rw [<- e];exact hx)
 case assign =>
  intro l k W K hK;dsimp only at hK ⊢;generalize (ts[k]?.getD (0,0)).1=x at *
  gi_wp2
  exact hK
 case body =>
  rintro l k W ⟨hk,ht⟩ _;obtain⟨x,hx⟩:=AB k hk;have NJ:(ts[k]?.getD (0,0)).1=x.1:=by rw [hx];rfl
  rw [NJ];obtain⟨v,c0,f0,A0,Bb⟩:=ht.row hx (.cells #[.int .i64 (x.1:Int)] 3);have AZ:=Q0a Bb;have Rl:k<=256:=by omega
  clear Bb ht h hc c1 f1 Bi DX T0 AB
  gi_wp2_with (gi_at_builtin;refine wpListIn_append_own_at _ rfl _ _ 36 rfl 0 3 i0 (.int .i64 0) 1 8 underlying36 hi BN Bh Bf rfl (by decide) _ _ _ rfl A0 ⟨W.heap.size,0,none⟩ 1 1 [.int .i64 (x.1:Int)] rfl rfl (cell_one_new _ _ _) (by simp [Value.oneCell']) (by unfold maxLen;omega) (by omega) (J3O _) ?_;intro v' w1 AS Ca _ FQ;have Dk:=Ca.size;obtain⟨⟨u0,d0⟩,df,Nf⟩:=AZ.out v' w1 AS Ca FQ;obtain⟨g',BA,rfl⟩:=ownsRow_succ AS;have Sb:=Q0a Nf;have HG:=Q0a Ca;have U4:=Q0a A0;clear Nf AS Ca FQ A0)
  exact⟨Z5K U4.out HG.out (by omega),hk,Sb.out⟩
 case done =>
  intro D W hD ht hK;obtain⟨_,rv',ro',q1,q2,st⟩:=ht;have ER:=(st.sep.cells (b:=w.heap.size) (T:=36) (cs:=[lvOf ro' (dueK (now+1) ts)]) (by simp [Q2i])).cell 0 _ rfl
  gi_wp2
  refine⟨by simp,.inl ⟨_,_,rfl,run_takeDeferred hK,?_⟩⟩;refine⟨_,results_tmp rfl _ _ _,?_⟩;exact⟨rv',ro',_,_,rfl,q1,q2,Z1E st _ (by omega) Cn ⟨_,hK,rfl⟩⟩
theorem Z5L {w:World} {g per now:Nat} {rv:OV} {ts:List (Nat×Nat)} (h:Sep w (qhl g per now rv ts)) (Bi:ovOk rv ts.length) (hl:ts.length<=256) (EL:now<1048576) (DX:ts.Pairwise (fun a b=>a.2<=b.2)) :
  Calls prog 134 #[.pointer (some ⟨g,0,none⟩)] w (Z1D g per (now+1) rv ts w):=
 (callsIn_wide (n:=4)).1 (Z8g Fence.wide rfl 4 (J1L _) h Bi hl EL DX)
theorem Q2r {w:World} {B B' size n:Nat} {T:TypeId} {v:Value} {xs:List Value} (h:w.ownsRow B T size v n xs) (hB:B'<=B):w.ownsRow B' T size v n xs:=by
 refine⟨h.1,?_⟩;rcases h.2 with h|⟨g,cap,Ah,e,hg,rest⟩
 ·exact .inl h
 ·exact .inr ⟨g,cap,Ah,e,J1M hB hg,rest⟩
def kidT (l:List Pl) (a x:Nat):Bool:=decide (x≠0)&&match l[x%256]? with
 | some p=>decide (p.fac=a)
 | none=>false
theorem Z5M {l:List Pl} {a x:Nat} {p:Pl} (hp:pget l 1 x=some p):kidT l a x=(decide (p.fac=a)&&decide (x≠0)):=by
 unfold kidT;rw [(pget_some.1 hp).1];simp [Bool.and_comm]
theorem Z5N {w:World} {S:CO} {fr:List Nat} {N K:Nat} (h:Sep w S.hl) (ok:S.Ok fr N K) {x:Nat} (hx:x<4294967296) {p:Pl} (hp:pget S.l 1 x=some p) (hk:p.kind=1) :
  Calls prog 95 #[.pointer (some ⟨S.c,0,none⟩),.int .u32 x] w (NewHs w (kids S.l x)):=by
 have Ba:=ok.inv.lok;have hO:=Q6d h ok hx hp hk;have HS:=Q0a h;have Kr:=Q0a Ba;have Fn:kids S.l x=(allL S.l 1).filter (kidT S.l p.own):=by
  unfold kids;rw [hp];simp only [hk,if_true];rfl
 rw [Fn];have Ud:Hid (∀w1,Below w.heap.size w w1->w1.cell? ⟨S.c,1,none⟩=some (.pointer (some ⟨S.t,0,none⟩))/\Calls prog 94 #[.pointer (some ⟨S.t,0,none⟩)] w1 (NewHs w1 (allL S.l 1))):=fun w1 hb=>by
  have s1:=(h.grown hb).sep;exact⟨CO.c1 s1,Q8K (h:=S.ht) (CO.sT s1) Ba⟩
 have TG:Hid (∀w1 y,Below w.heap.size w w1->y∈allL S.l 1->w1.cell? ⟨S.c,1,none⟩=some (.pointer (some ⟨S.t,0,none⟩))/\∃q:Pl,pget S.l 1 y=some q/\Calls prog 93 #[.pointer (some ⟨S.t,0,none⟩),.int .u32 y] w1 (Told w1 (.tuple #[.agg #[.int .i64 (q.kind:Int),.int .i64 (q.at_:Int),.int .i64 (q.fac:Int)],.int .i64 0]))):=fun w1 y hb hy=>by
  have s1:=(h.grown hb).sep;obtain⟨q,hq⟩:=(Q3X (by rw [Ba.1];omega)).1 hy;have CM:y<4294967296:=by
   obtain⟨a1,a2,_⟩:=pget_some.1 hq;have:=(Ba.2 q (J4a a1)).2;unfold nm at a2;omega
  exact⟨CO.c1 s1,q,hq,Q6b (h:=S.ht) (CO.sT s1) Ba CM hq⟩
 have K1:(allL S.l 1).length<=256:=by
  have:=Q2y S.l 1 S.l.length;unfold allL;rw [Ba.1] at this ⊢;exact this
 obtain⟨i0,D1,BN,Bh,Bf⟩:=info_parts Q3D;clear h ok Ba hp hk Fn;generalize p.own=po at *
 generalize hL:allL S.l 1=L at *
 go_enter func95,ntmps95;go_wp2_with fail;refine hO.mono ?_;rintro r w1 ⟨rfl,Ax⟩;obtain⟨c1,JI⟩:=Ud.out w1 Ax;have Bq:=Q0a Ax;clear Ax;go_wp2_with fail;refine JI.mono ?_;intro r w2 EB;obtain⟨a0,Le,rfl,Af,Jg⟩:=EB.shape;have Ey:Hid (Below w.heap.size w w2):=Bq.out.trans (Af.mono Bq.out.size);have JN:=Q0a Jg;have LQ:=Ey.out.size;clear EB Af Jg JI c1 hO;go_wp2_with fail
 go_loopg [5,26] L.length (fun gk ov iv wr=>∃k:Nat,iv=.int .i64 k/\k+gk=L.length/\OutH w2 wr ov ((L.take k).filter (kidT S.l po)))
 case atStart=>exact⟨0,rfl,J4q _,by simpa using OutH.nil w2⟩
 case round =>
  obtain⟨k,rfl,AL,Au⟩:=hrel;have HO:=Q0a Au;have BW:=Q0a AL;clear Au;by_cases Ab:k<L.length
  ·obtain⟨y,hy⟩:∃y,L[k]?=some y:=⟨_,J4d Ab⟩
   obtain⟨g0,rfl,Nz,DG,Al⟩:=(JN.out.below HO.out.2).at' k y hy;obtain⟨c1,q,hq,Bp⟩:=TG.out wr y (Ey.out.trans (HO.out.2.mono Ey.out.size)) (J4a hy);have BF:(L.take (k+1)).filter (kidT S.l po)=(L.take k).filter (kidT S.l po)++if kidT S.l po y=true then [y] else []:=by
    rw [J3I,hy,J3J];simp [List.filter_cons]
   have Bm:=Q0a BF;have Ev:=Z5M (a:=po) hq;have RY:=Q0a Ev;have Ac:((L.take k).filter (kidT S.l po)).length<=256:=J1M (J4b _ _) (by rw [J4f];omega);clear BF Ev hq hy;go_wp2_with fail;refine Bp.mono ?_;rintro r w3 ⟨rfl,Ar⟩;have Ii:Hid (∀o,OutH w2 (w3.alloc o) u5 ((L.take k).filter (kidT S.l po))):=fun o=>(HO.out.below Ar).alloc o
   have UD:w2.heap.size<=w3.heap.size:=J1M HO.out.2.size Ar.size;clear Ar Bp HO;by_cases hc:kidT S.l po y=true
   ·have A8:=RY.out;rw [hc] at A8;have Lp:=A8.symm;rw [J2g,decide_eq_true_eq,decide_eq_true_eq] at Lp;have Ax:(((q.fac:Nat):Int)==(po:Int))=true:=by simp;omega
    have Af:(((y:Nat):Int) != 0)=true:=by simp;omega
    have Ar:(((y:Nat):Int)==0)=false:=by simp;omega
    have HC:=Q0a hc;clear hc A8 Lp;have Ef:=Ii.out (.cells #[.int .i64 (q.kind:Int),.int .i64 (q.at_:Int),.int .i64 (q.fac:Int)] 69);go_wp2_with (refine wpList_append_own _ rfl (.tmp 47) (.tmp 49) 66 rfl w2.heap.size 27 i0 (.int .u32 0) 1 4 underlying66 D1 BN Bh Bf rfl (by decide) _ _ _ rfl ((Ii.out _).1.alloc _) ⟨w3.heap.size+1,0,none⟩ 1 1 [.int .u32 y] rfl rfl (Q7e _ _ _) (by simp [Value.oneCell']) (by unfold maxLen;omega) (by omega) (by simp;omega) ?_;intro v' w4 AS Ca _;have HR:=Q0a ((Ii.out _).app1 (M:=[y]) AS Ca);clear AS Ca Ii Ef);have CW:Hid (OutH w2 w4 v' ((L.take (k+1)).filter (kidT S.l po))):=by
     have:=Bm.out;rw [if_pos HC.out] at this;rw [this];exact HR.out
    clear HR;go_roundg (L.length-(k+1))
    case measure=>have:=BW.out;omega
    case rel=>exact⟨k+1,by go_num,by omega,CW.out⟩
   ·have KZ:kidT S.l po y=false:=by simpa using hc
    have CW:Hid (∀o,OutH w2 (w3.alloc o) u5 ((L.take (k+1)).filter (kidT S.l po))):=fun o=>by
     have:=Bm.out;rw [if_neg hc,J3S] at this;rw [this];exact Ii.out o
    have A8:=RY.out;rw [KZ] at A8;have Aw:q.fac≠po∨q.fac=po/\y=0:=by
     by_cases h1:q.fac=po
     ·right;refine⟨h1,?_⟩;rcases Nat.eq_zero_or_pos y with h2|h2
      ·exact h2
      ·exfalso;have h3:y≠0:=by omega
       simp [h1,h3] at A8
     ·exact .inl h1
    clear hc A8 KZ Ii;rcases Aw with h1|⟨h1,h2⟩
    ·have Ax:=Q4y h1;clear h1;go_wp2_with fail;go_roundg (L.length-(k+1))
     case measure=>have:=BW.out;omega
     case rel=>exact⟨k+1,by go_num,by omega,CW.out _⟩
    ·have Ax:(((q.fac:Nat):Int)==(po:Int))=true:=by simp;omega
     have Af:(((y:Nat):Int) != 0)=false:=by simp;omega
     have Ar:(((y:Nat):Int)==0)=true:=by simp;omega
     clear h1 h2;go_wp2_with fail;go_roundg (L.length-(k+1))
     case measure=>have:=BW.out;omega
     case rel=>exact⟨k+1,by go_num,by omega,CW.out _⟩
  ·have Fs:k=L.length:=by omega
   have Au:=HO.out;rw [Fs,J5V] at Au;have HR:Hid (NewHs w (L.filter (kidT S.l po)) (.returned u5) wr):=⟨u5,rfl,Q2r Au.1 LQ,Ey.out.trans (Au.2.mono LQ)⟩
   clear Au HO;go_wp2_with fail
   first|exact HR.out|(go_ret;exact HR.out)
theorem Q8Q {w:World} {S:CO} {x:Nat} {e:Int} (he:e≠0) (hO:Calls prog 67 #[.pointer (some ⟨S.c,0,none⟩),.int .u32 x] w (Told w (.tuple #[.int .i64 0,.int .i64 e]))) :
  Calls prog 95 #[.pointer (some ⟨S.c,0,none⟩),.int .u32 x] w (NewHs w []):=by
 have Ax:(e==0)=false:=by simpa using he
 go_enter func95,ntmps95;go_wp2_with (go_at_call 67;refine hO.mono ?_;rintro r w1 ⟨rfl,hb⟩;have HB:=Q0a hb;clear hb);have HR:Hid (∀w',w'=w1->NewHs w [] (.returned (.slice none 0 0)) w'):=fun w' e=>⟨_,rfl,World.ownsRow_nil _ _ _ _,by rw [e];exact HB.out⟩
 first|exact HR.out _ rfl|(go_ret;exact HR.out _ rfl)
theorem Q8R {w:World} {S:CO} {fr:List Nat} {N K:Nat} (h:Sep w S.hl) (ok:S.Ok fr N K) {x:Nat} (hx:x<4294967296):Calls prog 95 #[.pointer (some ⟨S.c,0,none⟩),.int .u32 x] w (NewHs w (kids S.l x)):=by
 cases hp:pget S.l 1 x with
 | none =>
  rw [Q4x (fun p h=>by rw [hp] at h;cases h)];exact Q8Q (e:=8) (by decide) (Q5G (by decide) (Q4z h ok.inv.lok hx 1 hp))
 | some p =>
  by_cases hk:p.kind=1
  ·exact Z5N h ok hx hp hk
  ·rw [Q4x (fun q h=>by rw [hp] at h;cases h;exact hk)];exact Q8Q (e:=10) (by decide) (Q5G (by decide) (Q4A h ok.inv.lok hx 1 hp (by decide) (by omega)))
def encH (x:Nat):Value:=.int .u32 x
theorem OutH.shape {w wr:World} {v:Value} {L:List Nat} (h:OutH w wr v L):∃(a:Option Addr) (cap:Nat),v=.slice a L.length cap:=by
 rcases h.1.2 with ⟨rfl,h0⟩|⟨g,cap,Ah,rfl,_⟩
 ·exact⟨none,0,by rw [h0]⟩
 ·exact⟨_,cap,rfl⟩
theorem OutH.shape1 {w wr:World} {v:Value} {L:List Nat} (h:OutH w wr v L) (hl:L≠[]):∃(g cap:Nat),v=.slice (some ⟨g,0,none⟩) L.length cap:=by
 rcases h.1.2 with ⟨rfl,h0⟩|⟨g,cap,Ah,rfl,_⟩
 ·exact absurd (J4c h0) hl
 ·exact⟨g,cap,rfl⟩
theorem OutH.parts {w wr:World} {g n cap:Nat} {L:List Nat} (h:OutH w wr (.slice (some ⟨g,0,none⟩) n cap) L):∃Ah,n=L.length/\w.heap.size<=g/\wr.heap[g]?=some (.cells Ah 27 (0,0))/\L.length<=cap/\cap<=maxLen/\Ah.size=cap/\Ah.toList.take L.length=Q1g L:=by
 rcases h.1.2 with ⟨h',_⟩|⟨g',BA,Ah,h',a1,a2,a3,a4,a5,a6⟩
 ·simp at h'
 ·simp only [Value.slice.injEq,J1Z,Addr.mk.injEq,and_true] at h';obtain⟨rfl,rfl,rfl⟩:=h';exact⟨Ah,rfl,a1,a2,a3,a4,by simpa using a5,by simpa using a6⟩
theorem OutH.cellAt {w wr:World} {g n cap:Nat} {L:List Nat} (h:OutH w wr (.slice (some ⟨g,0,none⟩) n cap) L) {j x:Nat} (hj:L[j]?=some x):wr.cell? ⟨g,j,none⟩=some (.int .u32 x)/\w.heap.size<=g/\g<wr.heap.size:=by
 obtain⟨Ah,_,a1,a2,_,_,_,a6⟩:=h.parts;refine⟨?_,a1,lt_of_block a2⟩;have hv:=Q7U hj;rw [<- a6,J3P] at hv;split at hv
 ·simp only [World.cell?,a2,J4P,J5E,if_false];rw [<- J4m];exact hv
 ·cases hv
theorem OutH.cut {w wr:World} {g n cap x:Nat} {L:List Nat} (h:OutH w wr (.slice (some ⟨g,0,none⟩) n cap) (L++[x])):OutH w wr (.slice (some ⟨g,0,none⟩) L.length cap) L:=by
 obtain⟨Ah,_,a1,a2,a3,a4,a5,a6⟩:=h.parts;have hl:L.length+1<=cap:=by simpa using a3
 refine⟨⟨by simp [Q3h],.inr ⟨g,cap,Ah,rfl,a1,a2,by omega,a4,by simpa using a5,?_⟩⟩,h.2⟩;have:=congrArg (List.take L.length) a6;rw [J4h,J2v,hands_app,show min L.length (L.length+[x].length)=L.length by simp] at this;rw [J2S,this];have e:=Q3h L;rw [<- e,J4k]
def Two (w wr:World) (v:Value) (L:List Nat) (u:Value) (M:List Nat):Prop:=OutH w wr v L/\OutH w wr u M/\∀b,v.ownBlock=some b->u.ownBlock≠some b
theorem Two.swap {w wr:World} {v u:Value} {L M:List Nat} (h:Two w wr v L u M):Two w wr u M v L:=⟨h.2.1,h.1,fun b h1 h2=>h.2.2 b h2 h1⟩
theorem Two.below {w wr w1:World} {v u:Value} {L M:List Nat} (h:Two w wr v L u M) (hb:Below wr.heap.size wr w1):Two w w1 v L u M:=⟨h.1.below hb,h.2.1.below hb,h.2.2⟩
theorem Two.alloc {w wr:World} {v u:Value} {L M:List Nat} (h:Two w wr v L u M) (o:Obj):Two w (wr.alloc o) v L u M:=⟨h.1.alloc o,h.2.1.alloc o,h.2.2⟩
theorem Two.cut {w wr:World} {g n cap x:Nat} {u:Value} {L M:List Nat} (h:Two w wr (.slice (some ⟨g,0,none⟩) n cap) (L++[x]) u M):Two w wr (.slice (some ⟨g,0,none⟩) L.length cap) L u M:=⟨h.1.cut,h.2.1,h.2.2⟩
theorem Two.app {w wr w1:World} {v v' u:Value} {L M X:List Nat} (h:Two w wr v L u M) (Ag:w1.ownsRow w.heap.size 27 1 v' (L.length+X.length) (Q1g L++Q1g X)) (hg:wr.grownBy w1 v.ownBlock) (AB:v'.ownBlock=v.ownBlock∨v'.ownBlock=some wr.heap.size):Two w w1 v' (L++X) u M:=by
 obtain⟨h1,h2,h3⟩:=h;have hb:Below w.heap.size w w1:=h1.2.trans ((Below.refl _ wr).mono h1.2.size |>.grown hg h1.2.size (fun b hb=>(h1.1.lt b hb).1));refine⟨h1.app0 Ag hg,⟨h2.1.kept hg ?_,hb⟩,fun b e1 e2=>?_⟩
 ·cases hv:v.ownBlock with
  | none=>cases hu:u.ownBlock with
   | none=>exact .inl rfl
   | some c=>exact .inr (by simp)
  | some b=>exact .inr (fun e=>h3 b hv e)
 ·rcases AB with e|e
  ·exact h3 b (e ▸ e1) e2
  ·rw [e] at e1;cases e1;exact absurd (h2.1.lt _ e2).2 (by omega)
theorem Z5O {w:World} {B B':Nat} {v:Value} {L M:List Nat} {a:Option Addr} {cap:Nat} {ty:TypeId} (h:w.ownsRow B 27 1 v L.length (Q1g L)) (hM:IsHs B' M a w) (hn:L.length+M.length<=65536) (hB:B<=w.heap.size) :
  ∃v' w',(Builtin.append_ #[66,66] ty #[v,.slice a M.length (match a with|none=>0|some _=>cap)]).run prog w=.ok v' w'/\w'.ownsRow B 27 1 v' (L.length+M.length) (Q1g L++Q1g M)/\w.grownBy w' v.ownBlock/\(v'.ownBlock=v.ownBlock∨v'.ownBlock=some w.heap.size):=by
 obtain⟨i0,D1,BN,Bh,Bf⟩:=info_parts Q3D;cases a with
 | none =>
  have Oa:M=[]:=by
   cases M with
   | nil=>rfl
   | cons x r=>obtain⟨g,h1,_⟩:=hM.at' 0 x rfl;cases h1
  subst Oa;exact⟨v,w,run_append_owned_none w B 66 ty 27 i0 1 underlying66 D1 v _ _ h,by simpa [Q1g] using h,⟨rfl,rfl,rfl,J1L _,fun _ _ _=>rfl⟩,.inl rfl⟩
 | some ad =>
  obtain⟨v',w',e1,e2,e3,_,e5⟩:=run_append_own_at (P:=prog) w B 66 ty 27 i0 (.int .u32 0) 1 4 underlying66 D1 BN Bh Bf rfl (by decide) v _ _ h ad M.length cap (Q1g M) (by simp [Q3h]) (fun j u hj=>by
   have Bj:j<M.length:=by have:=(J2c.1 hj).1;simpa [Q3h] using this
   obtain⟨g,g1,_,_,g4⟩:=hM.at' j M[j] (J4d Bj);cases g1;rw [Q7U (J4d Bj)] at hj;cases hj;have e:(⟨g,0,none⟩:Addr).add j=⟨g,j,none⟩:=by unfold Addr.add;split <;> simp_all
   rw [e];exact g4) (fun u hu=>by
    obtain⟨x,_,rfl⟩:=J1R.1 hu;rfl) (by unfold maxLen;omega) (by omega) hB
  exact⟨v',w',e1,e2,e3,e5⟩
theorem Z0p {w wr:World} {g n cap:Nat} {L:List Nat} (h:OutH w wr (.slice (some ⟨g,0,none⟩) n cap) L):Go.Sort.Holds encH wr g 0 L.toArray:=by
 obtain⟨Ah,_,a1,a2,_,_,_,a6⟩:=h.parts;intro j hj;have Bj:j<L.length:=by simpa using hj
 have hx:=J4d Bj;refine⟨?_,by simp [World.frozen?,a2]⟩;have:=(h.cellAt hx).1;rw [J4q,this,getElem!_pos _ j hj];simp [encH]
theorem Q6I (Ah:Array Value) (F:Array Nat) (h:F.size<=Ah.size):(Go.Sort.putCells encH 0 F Ah).toList.take F.size=F.toList.map encH:=by
 apply J3u
 intro j;by_cases hj:j<F.size
 ·rw [J6f hj,J4m];simp [Go.Sort.putCells,hj,show j<Ah.size by omega]
 ·rw [J6g (by omega),J3B (by simp;omega)]
theorem Z5P {w:World} {g n:Nat} {Ah:Array Value} {e:TypeId} (d:Array Nat) (hb:w.heap[g]?=some (.cells Ah e (0,0))) :
  (Go.Sort.putRow encH (Go.Sort.ahead w n) g 0 d).heap[g]?=some (.cells (Go.Sort.putCells encH 0 d Ah) e (0,0)):=by
 have hg:g<w.heap.size:=(J6h.1 hb).1;simp [Go.Sort.putRow,Go.Sort.mapBlock,Go.Sort.ahead,Array.getElem?_modify,hb,Go.Sort.onCells]
theorem Z2Q {w:World} {g n:Nat} (d:Array Nat):w.grownBy (Go.Sort.putRow encH (Go.Sort.ahead w n) g 0 d) (some g):=by
 refine⟨rfl,rfl,rfl,by simp [Go.Sort.putRow,Go.Sort.mapBlock,Go.Sort.ahead],fun k hk Aa=>?_⟩;have:g≠k:=fun e=>Aa (by rw [e])
 simp [Go.Sort.putRow,Go.Sort.mapBlock,Go.Sort.ahead,Array.getElem?_modify,this]
theorem OutH.reversed {w wr:World} {g n cap k:Nat} {L:List Nat} (h:OutH w wr (.slice (some ⟨g,0,none⟩) n cap) L):OutH w (Go.Sort.putRow encH (Go.Sort.ahead wr k) g 0 L.toArray.reverse) (.slice (some ⟨g,0,none⟩) n cap) L.reverse:=by
 obtain⟨Ah,rfl,a1,a2,a3,a4,a5,a6⟩:=h.parts;have CX:=Z2Q (w:=wr) (g:=g) (n:=k) L.toArray.reverse;have Bv:L.toArray.reverse.size=L.length:=by simp
 refine⟨⟨by simp [Q3h],.inr ⟨g,cap,_,by rw [J6i],a1,Z5P _ a2,by simpa using a3,a4,by simp [Go.Sort.putCells,a5],?_⟩⟩,h.2.trans ((Below.refl _ wr).mono h.2.size |>.grown CX h.2.size (fun b hb=>by cases hb;exact a1))⟩;have e:L.reverse.length*1=L.toArray.reverse.size:=by simp
 rw [e,Q6I _ _ (by rw [Bv,a5];exact a3)];simp [Q1g,encH]
theorem NewHs.shape0 {w:World} {L:List Nat} {r:Ending} {w':World} (h:NewHs w L r w'):∃(a:Option Addr) (cap:Nat),r=.returned (.slice a L.length cap)/\Below w.heap.size w w'/\IsHs w.heap.size L a w'/\(a=none->cap=0):=by
 obtain⟨v,rfl,⟨h1,h2⟩,hb⟩:=h;have h:=NewHs.shape (w:=w) (L:=L) (w':=w') (r:=.returned v) ⟨v,rfl,⟨h1,h2⟩,hb⟩;obtain⟨a,cap,e,Ak,hi⟩:=h;refine⟨a,cap,e,Ak,hi,fun ha=>?_⟩;subst ha;rcases h2 with ⟨rfl,h0⟩|⟨g,BA,Ah,rfl,_⟩
 ·simp only [Ending.returned.injEq,Value.slice.injEq] at e;omega
 ·simp at e
theorem J0i {w:World} {B B':Nat} {v:Value} {L M:List Nat} {a:Option Addr} {cap:Nat} {ty:TypeId} (h:w.ownsRow B 27 1 v L.length (Q1g L)) (hM:IsHs B' M a w) (ha:a=none->cap=0) (hn:L.length+M.length<=65536) (hB:B<=w.heap.size) :
  ∃v' w',(Builtin.append_ #[66,66] ty #[v,.slice a M.length cap]).run prog w=.ok v' w'/\w'.ownsRow B 27 1 v' (L.length+M.length) (Q1g L++Q1g M)/\w.grownBy w' v.ownBlock/\(v'.ownBlock=v.ownBlock∨v'.ownBlock=some w.heap.size):=by
 have:=Z5O (ty:=ty) (cap:=cap) h hM hn hB;cases a with
 | none=>rw [ha rfl];exact this
 | some ad=>exact this
open Go.Sort (Holds putRow holds_putRow holds_ahead putRow_self reverseLoop swp size_swp)
theorem Z0q (blk cap:Nat) (d:Array Nat) (w:World) (hH:Holds encH w blk 0 d) (Bv:d.size<=65536) :
  Calls prog 96 #[.slice (some ⟨blk,0,none⟩) d.size cap] w fun e w'=>e=.returned (.tuple #[])/\∃n,w'=putRow encH (Go.Sort.ahead w n) blk 0 d.reverse:=by
 go_enter func96,ntmps96;go_wp2_with fail
 go_loopg [2,3] d.size (fun k s2 s3 wr=>∃(i jn:Nat) (jz:Int) (dk:Array Nat) (n:Nat),s2=.int .i64 i/\s3=.int .i64 jz/\((i:Int)<jz->jz=jn/\jn<d.size)/\(¬(i:Int)<jz->¬i<jn)/\jn-i<=k /\
  dk.size=d.size/\wr=putRow encH (Go.Sort.ahead w n) blk 0 dk/\reverseLoop i jn dk=reverseLoop 0 (d.size-1) d)
 case atStart=>exact⟨0,d.size-1,(d.size:Int)-1,d,0,rfl,rfl,fun h=>⟨by omega,by omega⟩,fun h=>by omega,by omega,rfl,(putRow_self encH w blk 0 d hH).symm,rfl⟩
 case round =>
  obtain⟨i,jn,jz,dk,n,rfl,rfl,h1,h2,hk,FH,Ir,Gu⟩:=hrel;by_cases Ab:(i:Int)<jz
  ·obtain⟨rfl,MQ⟩:=h1 Ab;have FT:i<jn:=by omega
   have Ks:Holds encH wr blk 0 dk:=by rw [Ir];exact holds_putRow encH _ blk 0 d dk (holds_ahead encH w n blk 0 d hH) FH
   obtain⟨ci,fi⟩:=Ks i (by omega);obtain⟨cj,fj⟩:=Ks jn (by omega);have A:Go.Aside (wr=putRow encH (Go.Sort.ahead w n) blk 0 dk):=Ir;have SW:Hid (((wr.setCell ⟨blk,i,none⟩ (.int .u32 (dk[jn]!:Int))).setCell ⟨blk,jn,none⟩ (.int .u32 (dk[i]!:Int))).drew=putRow encH (Go.Sort.ahead w (n+1)) blk 0 (swp dk i jn)):=by
    have:=swap_world encH (off:=0) (i:=i) (j:=jn) (by omega) (by omega) Ir rfl rfl;rw [J4q,J4q] at this;exact this
   clear Ir Ks hH h1 h2;go_wp2_with fail;rw [J4q] at ci fi cj fj;unfold encH at ci cj;go_region
   all_goals
    go_wp2_with fail;go_roundg (jn-1-(i+1))
    case measure=>omega
    case rel =>
     rw [reverseLoop,if_pos FT] at Gu;exact⟨i+1,jn-1,(jn:Int)-1,swp dk i jn,n+1,by go_num,by go_num,fun h=>⟨by omega,by omega⟩,fun h=>by omega,J1L _,by rw [size_swp];exact FH,
      (by have J0:=SW.out;first|exact J0|(simp only [getElem!_pos dk jn (by omega)] at J0;exact J0)),Gu⟩
  ·have D8:=h2 Ab;go_wp2_with fail
   first|go_end0|skip
   refine⟨rfl,n,?_⟩;rw [reverseLoop,if_neg D8] at Gu;rw [<- Go.Lib.reverseLoop_reverse,<- Gu]
end Go.Proofs.YtlakjlmaboioiaaGreatDoor
namespace Go.Proofs.YtlakjlmaboioiaaGreatDoor
open Go.RowKit Go.Proofs.Tryz
theorem Z8h (l:List Pl) (hl:l.length<=256) (x:Nat):(kids l x).length<=256:=by
 unfold kids;split
 ·split
  ·unfold Z6V;refine J1M (J4b _ _) ?_;have:=Q2y l 1 l.length;unfold allL;omega
  ·simp
 ·simp
structure UndI (l:List Pl) (N x:Nat) (ws os:List Nat):Prop where
 eq:os++rest l N ws=pre l N x
theorem UndI.start (l:List Pl) (N x:Nat):UndI l N x [x] []:=⟨by simp [rest]⟩
theorem UndI.step {l:List Pl} {N x y:Nat} {ws os:List Nat} (t:Tre l N) (u:UndI l N x (ws++[y]) os):UndI l N x (ws++kids l y) (os++[y])/\(rest l N (ws++kids l y)).length<(rest l N (ws++[y])).length:=by
 have h:=u.eq;rw [Q8n t] at h ⊢;exact⟨⟨by rw [J2M];exact h⟩,by simp⟩
theorem UndI.len {l:List Pl} {N x:Nat} {ws os:List Nat} (t:Tre l N) (u:UndI l N x ws os):ws.length<=256/\os.length<=256:=by
 have h1:=congrArg List.length u.eq;have h2:=Z3Y t x;have h3:=Z6Y l N ws;rw [J2v] at h1;omega
theorem UndI.name {l:List Pl} {N x y:Nat} {ws os:List Nat} (t:Tre l N) (ok:LOk l) (hx:x<4294967296) (u:UndI l N x (ws++[y]) os):y<4294967296:=by
 have hy:y∈pre l N x:=by
  rw [<- u.eq,Q8n t];simp
 rcases Q5A t hy with rfl|⟨_,q,hq⟩
 ·exact hx
 ·obtain⟨a1,a2,_⟩:=pget_some.1 hq;have:=(ok.2 q (J4a a1)).2;unfold nm at a2;omega
theorem UndI.done {l:List Pl} {N x:Nat} {os:List Nat} (t:Tre l N) (u:UndI l N x [] os):os.reverse=Q0N l N x++[x]:=by
 have h:=u.eq;rw [show rest l N []=[] from rfl,J3S,Q4w t] at h;rw [h];simp
theorem OutH.single (w:World) (x:Nat):OutH w (w.alloc (.cells #[.int .u32 x] 27)) (.slice (some ⟨w.heap.size,0,none⟩) 1 1) [x]:=
 ⟨⟨rfl,.inr ⟨w.heap.size,1,#[.int .u32 x],rfl,J1L _,Cells.new w 27 [.int .u32 x],J1L 1,(by decide:1<=maxLen),rfl,rfl⟩⟩,(Below.refl _ _).alloc (J1L _) _⟩
theorem Two.start (w:World) (x:Nat):Two w (w.alloc (.cells #[.int .u32 x] 27)) (.slice (some ⟨w.heap.size,0,none⟩) 1 1) [x] (.slice none 0 0) []:=
 ⟨OutH.single w x,(OutH.nil w).alloc _,fun b _ h=>by simp [Value.ownBlock] at h⟩
theorem Two.drew {w wr:World} {v u:Value} {L M:List Nat} (h:Two w wr v L u M):Two w wr.drew v L u M:=h.below (Below.refl _ _).drew
theorem Z1F (w:World) (y:Nat):IsHs w.heap.size [y] (some ⟨w.heap.size,0,none⟩) (w.alloc (.cells #[.int .u32 y] 27)):=⟨fun j x hj=>by
 match j,hj with
 | 0,hj =>
  cases hj
  exact⟨_,rfl,J1L _,by simp,(Cells.new w 27 [.int .u32 y]).cell 0 _ rfl⟩
 | k+1,hj=>cases hj⟩
theorem Z2R {w:World} {S:CO} {fr:List Nat} {N K:Nat} (h:Sep w S.hl) (ok:S.Ok fr N K) {x:Nat} (hx:x<4294967296) :
  Calls prog 33 #[.pointer (some ⟨S.c,0,none⟩),.int .u32 x] w (NewHs w (Q0N S.l S.P.q.next.toNat x)):=by
 have tre:=ok.inv.tree;have lok:=ok.inv.lok;have HM:Hid (∀(w1:World) (y:Nat),Below w.heap.size w w1->y<4294967296->Calls prog 95 #[.pointer (some ⟨S.c,0,none⟩),.int .u32 y] w1 (NewHs w1 (kids S.l y))):=fun w1 y hb hy=>Q8R (h.grown hb).sep ok hy
 generalize S.P.q.next.toNat=M at *
 have Iq:=Q0a tre;have Kr:=Q0a lok;have HX:=Q0a hx;have HS:=Q0a (Two.start w x);clear h ok tre lok hx;go_enter func33,ntmps33;go_wp2_with fail
 go_loopg [5,6] (pre S.l M x).length (fun gk ov wv wr=>∃ws os,Two w wr wv ws ov os/\UndI S.l M x ws os/\(rest S.l M ws).length<=gk)
 case atStart=>exact⟨[x],[],HS.out,UndI.start _ _ _,by have:=(UndI.start S.l M x).eq;rw [J3W] at this;rw [this];exact J1L _⟩
 case round =>
  obtain⟨ws,os,Cx,hu,E6⟩:=hrel;obtain⟨l1,l2⟩:=hu.len Iq.out;have A8:ws=[]∨∃(ws':List Nat) (y:Nat),ws=ws'++[y]:=by
   rcases J6j ws with h|⟨a,b,h⟩
   ·exact .inl h
   ·exact .inr ⟨a,b,by rw [h,J6k]⟩
  rcases A8 with rfl|⟨ws',y,rfl⟩
  ·have B5:=hu.done Iq.out;have Aa:os≠[]:=fun e=>by rw [e] at B5;simp at B5
   obtain⟨aw,cw,rfl⟩:=Cx.1.shape;obtain⟨g,co,rfl⟩:=Cx.2.1.shape1 Aa;obtain⟨_,_,_,_,Kx,_⟩:=Cx.2.1.parts;have D5:=Z0q g co os.toArray wr (Z0p Cx.2.1) (by simp;omega);have Bb:∀n,NewHs w (Q0N S.l M x) (.returned (.slice (some ⟨g,0,none⟩) (Q0N S.l M x).length co)) (Go.Sort.putRow encH (Go.Sort.ahead wr n) g 0 os.toArray.reverse):=fun n=>by
    have h1:=Cx.2.1.reversed (k:=n);rw [B5] at h1;have h2:=h1.cut;exact⟨_,rfl,h2.1,h2.2⟩
   have Ac:os.length=(Q0N S.l M x).length+1:=by
    have:=congrArg List.length B5
    simpa using this
   have HF:=Q0a Bb;rw [show os.toArray.size=os.length from rfl] at D5;rw [Ac] at D5 ⊢;have hm:(Q0N S.l M x).length<=256:=by omega
   have G9:(((Q0N S.l M x).length:Nat):Int)<=(co:Int):=by omega
   have AH:(Q0N S.l M x).length<=co:=by omega
   have hw:IntKind.i64.wrap ((Q0N S.l M x).length:Int)=((Q0N S.l M x).length:Int):=Go.IntWalk.i64_in _ (by omega);clear Bb Cx hu E6 B5 Aa l1 l2 Ac;generalize (Q0N S.l M x).length=m at *
   generalize NewHs w (Q0N S.l M x)=Q at *
   go_wp2_with fail;refine D5.mono ?_;rintro r w1 ⟨rfl,n,rfl⟩;have HQ:=Q0a (HF.out n);clear D5 HF;generalize Go.Sort.putRow encH (Go.Sort.ahead wr n) g 0 os.toArray.reverse=w1 at *
   go_wp2_with fail
   first|exact HQ.out|(go_ret;exact HQ.out)
  ·obtain⟨g,cw,rfl⟩:=Cx.1.shape1 (by simp);obtain⟨_,_,_,_,GZ,_⟩:=Cx.1.parts;have AH:ws'.length<=cw:=by
    have:ws'.length+1<=cw:=by simpa using GZ
    omega
   have G9:((ws'.length:Nat):Int)<=(cw:Int):=by omega
   clear GZ;obtain⟨Al,_,_⟩:=Cx.1.cellAt (j:=ws'.length) (x:=y) (by simp);have hy:=hu.name Iq.out Kr.out HX.out;obtain⟨BF,Ab⟩:=hu.step Iq.out;have hb:=Cx.1.2;have KX:=HM.out wr.drew y hb.drew hy;have Fs:=Z8h S.l (by rw [Kr.out.1];exact J1L _) y;have hl:ws'.length+1<=256:=by simpa using l1
   have GH:Hid (∀w1 am cm,Below wr.drew.heap.size wr.drew w1->IsHs wr.drew.heap.size (kids S.l y) am w1->(am=none->cm=0)->∃v1 w2,(Builtin.append_ #[66,66] 66 #[.slice (some ⟨g,0,none⟩) ws'.length cw,.slice am (kids S.l y).length cm]).run prog w1=.ok v1 w2/\Two w w2 v1 (ws'++kids S.l y) u5 os):=fun w1 am cm Ax hi Qm=>by
    have t1:Two w w1 (.slice (some ⟨g,0,none⟩) ws'.length cw) ws' u5 os:=Cx.cut.drew.below Ax;obtain⟨v1,w2,e1,e2,e3,e4⟩:=J0i (ty:=66) (a:=am) (cap:=cm) t1.1.1 hi Qm (by omega) t1.1.2.size;exact⟨v1,w2,e1,t1.app e2 e3 e4⟩
   have Mc:Hid (∀w2 v1 L,Two w w2 v1 L u5 os->∃v2 w3,(Builtin.append_ #[66,66] 66 #[u5,.slice (some ⟨w2.heap.size,0,none⟩) 1 1]).run prog (w2.alloc (.cells #[.int .u32 y] 27))=.ok v2 w3/\Two w w3 v1 L v2 (os++[y])):=fun w2 v1 L t=>by
    have t1:=(t.alloc (.cells #[.int .u32 y] 27)).swap;obtain⟨v2,w3,e1,e2,e3,e4⟩:=Z5O (ty:=66) (a:=some ⟨w2.heap.size,0,none⟩) (cap:=1) t1.1.1 (Z1F w2 y) (by simp;omega) t1.1.2.size;exact⟨v2,w3,e1,(t1.app e2 e3 e4).swap⟩
   have Bm:=Q0a BF;have UJ:=Q0a (J1N Ab E6);have hw:IntKind.i64.wrap (ws'.length:Int)=(ws'.length:Int):=Go.IntWalk.i64_in _ (by omega);rw [show (ws'++[y]).length=ws'.length+1 by simp] at *
   clear Cx hu E6 l1 l2 BF Ab hb Fs hy;generalize MN:kids S.l y=kk at *
   generalize hn:ws'.length=n at *
   go_wp2_with fail
   go_region_law (first|(go_simp;go_at_call 95;refine KX.mono ?_;intro r w1 Cg;obtain⟨am,cm,rfl,GM,Hs,F8⟩:=Cg.shape0;obtain⟨v1,w2,r1,r2⟩:=GH.out w1 am cm GM Hs F8;clear F8;have HR:=Q0a r1;have Ka:=Q0a r2;clear r1 r2 GM Hs Cg)|(refine Q0H rfl (.tmp 23) (.tmp 26) 66 66 rfl _ _ (by simp [Act.eval]) (by simp [Act.eval]) HR.out ?_))
   all_goals
    obtain⟨v2,w3,r3,r4⟩:=Mc.out _ _ _ Ka.out;have Ne:=Q0a r4;clear r4;go_wp2_with (at_builtin;refine Lib.wpList_append_run _ rfl _ _ _ _ rfl _ _ rfl rfl _ _ r3 ?_);go_roundg (rest S.l M (ws'++kk)).length
    case measure=>exact UJ.out
    case rel=>exact⟨_,_,Ne.out,Bm.out,J1L _⟩
end Go.Proofs.YtlakjlmaboioiaaGreatDoor
