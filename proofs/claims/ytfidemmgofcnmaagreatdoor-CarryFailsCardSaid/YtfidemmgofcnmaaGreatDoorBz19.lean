/- What the laws of spaces share is proved. No condition. Part of a proof. -/
import Derived.ScopeJumps
import Derived.Test.YtfidemmgofcnmaaGreatDoorBz18
set_option maxHeartbeats 4000000
set_option maxRecDepth 1000000
set_option linter.unusedVariables false
namespace Go.Proofs.YtfidemmgofcnmaaGreatDoor
open Go.RowKit Go.Proofs.Tryz
open Go.Sort (Holds putRow holds_putRow holds_ahead putRow_self reverseLoop swp size_swp)
theorem Q9w(blk cap:Nat)(d:Array Int)(w:World)(hH:Holds encI w blk 0 d)(Br:d.size<=65536) :
  Calls prog 205 #[.slice (some ⟨blk,0,none⟩) d.size cap] w fun e w'=>e=.returned (.tuple #[])/\∃n,w'=putRow encI (Go.Sort.ahead w n) blk 0 d.reverse:=by
 go_enter func205,ntmps205;go_wp2_with fail
 go_loopg [2,3] d.size (fun k s2 s3 wr=>∃(i jn:Nat) (jz:Int) (dk:Array Int) (n:Nat),s2=.int .i64 i/\s3=.int .i64 jz/\((i:Int)<jz->jz=jn/\jn<d.size)/\(¬(i:Int)<jz->¬i<jn)/\jn-i<=k /\
  dk.size=d.size/\wr=putRow encI (Go.Sort.ahead w n) blk 0 dk/\reverseLoop i jn dk=reverseLoop 0 (d.size-1) d)
 case atStart=>exact⟨0,d.size-1,(d.size:Int)-1,d,0,rfl,rfl,fun h=>⟨by omega,by omega⟩,fun h=>by omega,by omega,rfl,(putRow_self encI w blk 0 d hH).symm,rfl⟩
 case round =>
  obtain⟨i,jn,jz,dk,n,rfl,rfl,h1,h2,hk,I1,G2,JE⟩:=hrel;by_cases Aa:(i:Int)<jz
  ·obtain⟨rfl,QA⟩:=h1 Aa;have D2:i<jn:=by omega
   have QJ:Holds encI wr blk 0 dk:=by rw[G2];exact holds_putRow encI _ blk 0 d dk (holds_ahead encI w n blk 0 d hH) I1
   obtain⟨ci,fi⟩:=QJ i (by omega);obtain⟨cj,fj⟩:=QJ jn (by omega);have A:Go.Aside (wr=putRow encI (Go.Sort.ahead w n) blk 0 dk):=G2;have SW:Hid (((wr.setCell ⟨blk,i,none⟩ (.int .i64 dk[jn]!)).setCell ⟨blk,jn,none⟩ (.int .i64 dk[i]!)).drew=putRow encI (Go.Sort.ahead w (n+1)) blk 0 (swp dk i jn)):=by
    have:=swap_world encI (off:=0) (i:=i) (j:=jn) (by omega) (by omega) G2 rfl rfl;rw[J5F,J5F] at this;exact this
   clear G2 QJ hH h1 h2;go_wp2_with fail;rw[J5F] at ci fi cj fj;unfold encI at ci cj;go_region
   all_goals
    go_wp2_with fail;go_roundg (jn-1-(i+1))
    case measure=>omega
    case rel =>
     rw[reverseLoop,if_pos D2] at JE;exact⟨i+1,jn-1,(jn:Int)-1,swp dk i jn,n+1,by go_num,by go_num,fun h=>⟨by omega,by omega⟩,fun h=>by omega,J3h _,by rw[size_swp];exact I1,
      (by have Rq:=SW.out;first|exact Rq|(simp only[getElem!_pos dk jn (by omega)] at Rq;exact Rq)),JE⟩
  ·have Fo:=h2 Aa;go_wp2_with fail
   first|go_end0|skip
   refine⟨rfl,n,?_⟩;rw[reverseLoop,if_neg Fo] at JE;rw[<- Go.Lib.reverseLoop_reverse,<- JE]
end Go.Proofs.YtfidemmgofcnmaaGreatDoor
namespace Go.Proofs.YtfidemmgofcnmaaGreatDoor
open Go.RowKit Go.Proofs.Tryz
theorem OutI.parts{w wr:World}{g n cap:Nat}{L:List Int}(h:OutI w wr (.slice (some ⟨g,0,none⟩) n cap) L):∃Ak,n=L.length/\w.heap.size<=g/\wr.heap[g]?=some (.cells Ak 3 (0,0))/\L.length<=cap/\cap<=maxLen/\Ak.size=cap/\Ak.toList.take L.length=(L.map encI):=by
 rcases h.1.2 with ⟨h',_⟩|⟨g',Cn,Ak,h',a1,a2,a3,a4,a5,a6⟩
 ·simp at h'
 ·simp only[Value.slice.injEq,J3v,Addr.mk.injEq,and_true] at h';obtain⟨rfl,rfl,rfl⟩:=h';exact⟨Ak,rfl,a1,a2,a3,a4,by simpa using a5,by simpa using a6⟩
theorem OutI.cellAt{w wr:World}{g n cap:Nat}{L:List Int}(h:OutI w wr (.slice (some ⟨g,0,none⟩) n cap) L){j:Nat}{x:Int}(hj:L[j]?=some x):wr.cell? ⟨g,j,none⟩=some (.int .i64 x)/\w.heap.size<=g/\g<wr.heap.size:=by
 obtain⟨Ak,_,a1,a2,_,_,_,a6⟩:=h.parts;refine⟨?_,a1,lt_of_block a2⟩;have hv:(L.map encI)[j]?=some (.int .i64 x):=by rw[J4M,hj];rfl
 rw[<- a6,J5e] at hv;split at hv
 ·simp only[World.cell?,a2,J6e,J6S,if_false];rw[<- J5B];exact hv
 ·cases hv
theorem OutI.cut{w wr:World}{g n cap:Nat}{x:Int}{L:List Int}(h:OutI w wr (.slice (some ⟨g,0,none⟩) n cap) (L++[x])):OutI w wr (.slice (some ⟨g,0,none⟩) L.length cap) L:=by
 obtain⟨Ak,_,a1,a2,a3,a4,a5,a6⟩:=h.parts;have hl:L.length+1<=cap:=by simpa using a3
 refine⟨⟨by simp[List.length_map],.inr ⟨g,cap,Ak,rfl,a1,a2,by omega,a4,by simpa using a5,?_⟩⟩,h.2⟩;have:=congrArg (List.take L.length) a6;rw[J5w,J3N,J6E,show min L.length (L.length+[x].length)=L.length by simp] at this;rw[J4h,this];have e:(L.map encI).length=L.length:=J4K _;rw[<- e,J5z]
theorem Z3v{w wr:World}{g n cap:Nat}{L:List Int}(h:OutI w wr (.slice (some ⟨g,0,none⟩) n cap) L):Go.Sort.Holds encI wr g 0 L.toArray:=by
 obtain⟨Ak,_,a1,a2,_,_,_,a6⟩:=h.parts;intro j hj;have Bn:j<L.length:=by simpa using hj
 have hx:=J5s Bn;refine⟨?_,by simp[World.frozen?,a2]⟩;have:=(h.cellAt hx).1;rw[J5F,this,getElem!_pos _ j hj];simp[encI]
theorem Q6G(Ak:Array Value)(F:Array Int)(h:F.size<=Ak.size):(Go.Sort.putCells encI 0 F Ak).toList.take F.size=F.toList.map encI:=by
 apply J4J
 intro j;by_cases hj:j<F.size
 ·rw[J7r hj,J5B];simp[Go.Sort.putCells,hj,show j<Ak.size by omega]
 ·rw[J7s (by omega),J4Q (by simp;omega)]
theorem Z6E{w:World}{g n:Nat}{Ak:Array Value}{e:TypeId}(d:Array Int)(hb:w.heap[g]?=some (.cells Ak e (0,0))) :
  (Go.Sort.putRow encI (Go.Sort.ahead w n) g 0 d).heap[g]?=some (.cells (Go.Sort.putCells encI 0 d Ak) e (0,0)):=by
 have hg:g<w.heap.size:=(J7t.1 hb).1;simp[Go.Sort.putRow,Go.Sort.mapBlock,Go.Sort.ahead,Array.getElem?_modify,hb,Go.Sort.onCells]
theorem Z3w{w:World}{g n:Nat}(d:Array Int):w.grownBy (Go.Sort.putRow encI (Go.Sort.ahead w n) g 0 d) (some g):=by
 refine⟨rfl,rfl,rfl,by simp[Go.Sort.putRow,Go.Sort.mapBlock,Go.Sort.ahead],fun k hk Ac=>?_⟩;have:g≠k:=fun e=>Ac (by rw[e])
 simp[Go.Sort.putRow,Go.Sort.mapBlock,Go.Sort.ahead,Array.getElem?_modify,this]
theorem OutI.reversed{w wr:World}{g n cap k:Nat}{L:List Int}(h:OutI w wr (.slice (some ⟨g,0,none⟩) n cap) L):OutI w (Go.Sort.putRow encI (Go.Sort.ahead wr k) g 0 L.toArray.reverse) (.slice (some ⟨g,0,none⟩) n cap) L.reverse:=by
 obtain⟨Ak,rfl,a1,a2,a3,a4,a5,a6⟩:=h.parts;have Ca:=Z3w (w:=wr) (g:=g) (n:=k) L.toArray.reverse;have Br:L.toArray.reverse.size=L.length:=by simp
 refine⟨⟨by simp[List.length_map],.inr ⟨g,cap,_,by rw[List.length_reverse],a1,Z6E _ a2,by simpa using a3,a4,by simp[Go.Sort.putCells,a5],?_⟩⟩,h.2.trans ((Below.refl _ wr).mono h.2.size |>.grown Ca h.2.size (fun b hb=>by cases hb;exact a1))⟩;have e:L.reverse.length*1=L.toArray.reverse.size:=by simp
 rw[e,Q6G _ _ (by rw[Br,a5];exact a3)];simp
theorem OutI.alloc{w wr:World}{v:Value}{L:List Int}(h:OutI w wr v L)(o:Obj):OutI w (wr.alloc o) v L:=⟨h.1.alloc _,h.2.alloc h.2.size _⟩
theorem OutI.app0{w wr w1:World}{v v':Value}{L M:List Int}(h:OutI w wr v L)(An:w1.ownsRow w.heap.size 3 1 v' (L.length+M.length) (L.map encI++M.map encI))(hg:wr.grownBy w1 v.ownBlock):OutI w w1 v' (L++M):=
 ⟨by rw[J3N,J6E];exact An,h.2.trans ((Below.refl _ wr).mono h.2.size |>.grown hg h.2.size (fun b hb=>(h.1.lt b hb).1))⟩
def TwoI(w wr:World)(v:Value)(L:List Int)(u:Value)(M:List Int):Prop:=OutI w wr v L/\OutI w wr u M/\∀b,v.ownBlock=some b->u.ownBlock≠some b
theorem TwoI.swap{w wr:World}{v u:Value}{L M:List Int}(h:TwoI w wr v L u M):TwoI w wr u M v L:=⟨h.2.1,h.1,fun b h1 h2=>h.2.2 b h2 h1⟩
theorem TwoI.below{w wr w1:World}{v u:Value}{L M:List Int}(h:TwoI w wr v L u M)(hb:Below wr.heap.size wr w1):TwoI w w1 v L u M:=⟨h.1.below hb,h.2.1.below hb,h.2.2⟩
theorem TwoI.alloc{w wr:World}{v u:Value}{L M:List Int}(h:TwoI w wr v L u M)(o:Obj):TwoI w (wr.alloc o) v L u M:=⟨h.1.alloc o,h.2.1.alloc o,h.2.2⟩
theorem TwoI.cut{w wr:World}{g n cap:Nat}{x:Int}{u:Value}{L M:List Int}(h:TwoI w wr (.slice (some ⟨g,0,none⟩) n cap) (L++[x]) u M):TwoI w wr (.slice (some ⟨g,0,none⟩) L.length cap) L u M:=⟨h.1.cut,h.2.1,h.2.2⟩
theorem TwoI.app{w wr w1:World}{v v' u:Value}{L M X:List Int}(h:TwoI w wr v L u M)(An:w1.ownsRow w.heap.size 3 1 v' (L.length+X.length) (L.map encI++X.map encI))(hg:wr.grownBy w1 v.ownBlock)(Bb:v'.ownBlock=v.ownBlock∨v'.ownBlock=some wr.heap.size):TwoI w w1 v' (L++X) u M:=by
 obtain⟨h1,h2,h3⟩:=h;have hb:Below w.heap.size w w1:=h1.2.trans ((Below.refl _ wr).mono h1.2.size |>.grown hg h1.2.size (fun b hb=>(h1.1.lt b hb).1));refine⟨h1.app0 An hg,⟨h2.1.kept hg ?_,hb⟩,fun b e1 e2=>?_⟩
 ·cases hv:v.ownBlock with
  | none=>cases hu:u.ownBlock with
   | none=>exact .inl rfl
   | some c=>exact .inr (by simp)
  | some b=>exact .inr (fun e=>h3 b hv e)
 ·rcases Bb with e|e
  ·exact h3 b (e ▸ e1) e2
  ·rw[e] at e1;cases e1;exact absurd (h2.1.lt _ e2).2 (by omega)
theorem Z1X{w:World}{B:Nat}{v:Value}{L M:List Int}{rv:RV}{ty:TypeId}(h:w.ownsRow B 3 1 v L.length (L.map encI))(hM:∀g cap,rv=some (g,cap)->∀(j:Nat) (x:Int),M[j]?=some x->w.cell? ⟨g,j,none⟩=some (.int .i64 x))(AA:rvOk rv M.length)(hn:L.length+M.length<=16777216)(hB:B<=w.heap.size) :
  ∃v' w',(Builtin.append_ #[38,38] ty #[v,lvOf rv M.length]).run prog w=.ok v' w'/\w'.ownsRow B 3 1 v' (L.length+M.length) (L.map encI++M.map encI)/\w.grownBy w' v.ownBlock/\(v'.ownBlock=v.ownBlock∨v'.ownBlock=some w.heap.size):=by
 obtain⟨i0,DN,Bu,AT,Bk⟩:=info_parts Z0B;cases rv with
 | none =>
  have P9:M=[]:=J5r AA;subst P9;exact⟨v,w,run_append_owned_none w B 38 ty 3 i0 1 underlying38 DN v _ _ h,by simpa using h,⟨rfl,rfl,rfl,J3h _,fun _ _ _=>rfl⟩,.inl rfl⟩
 | some p =>
  obtain⟨g,cap⟩:=p;obtain⟨v',w',e1,e2,e3,_,e5⟩:=run_append_own_at (P:=prog) w B 38 ty 3 i0 (.int .i64 0) 1 8 underlying38 DN Bu AT Bk rfl (by decide) v _ _ h ⟨g,0,none⟩ M.length cap (M.map encI) (by simp) (fun j u hj=>by
   rw[J4M] at hj;obtain⟨x,hx,rfl⟩:=J6V.1 hj;have:=hM g cap rfl j x hx;have e:(⟨g,0,none⟩:Addr).add j=⟨g,j,none⟩:=by unfold Addr.add;split <;> simp_all
   rw[e];exact this) (fun u hu=>by
    obtain⟨x,_,rfl⟩:=J3n.1 hu;rfl) (by unfold maxLen;omega) (by omega) hB
  exact⟨v',w',e1,e2,e3,e5⟩
theorem Z0K{w wr:World}{q:FO}(h:Sep w q.hl)(ok:q.Ok){x:Int}{e:En Nd}(hf:find q.N x=some e){g n cap:Nat}{u:Value}{ws M:List Int}(T:TwoI w wr (.slice (some ⟨g,0,none⟩) n cap) (ws++[x]) u M)(I6:ws.length<=65536)(hM:M.length<=65536) :
  ∃v1 w1 v2 w2,(Builtin.append_ #[38,38] 38 #[.slice (some ⟨g,0,none⟩) ws.length cap,lvOf (q.kr x) e.q.ks.length]).run prog wr.drew=.ok v1 w1 /\
   (Builtin.append_ #[38,38] 38 #[u,.slice (some ⟨w1.heap.size,0,none⟩) 1 1]).run prog (w1.alloc (.cells #[.int .i64 x] 3))=.ok v2 w2/\TwoI w w2 v1 (ws++e.q.ks) v2 (M++[x]):=by
 obtain⟨BT,Fx⟩:=Q0d hf;have Cy:=ok.n.kids_few BT;have Ie:=ok.few;have AA:=ok.rv e BT;rw[Fx] at AA;have T1:TwoI w wr.drew (.slice (some ⟨g,0,none⟩) ws.length cap) ws u M:=T.cut.below ((Below.refl _ _).drew);have hs:Sep wr.drew q.hl:=(h.grown T1.1.2).sep;obtain⟨R,p1,_⟩:=FO.split ok.n.ids hf;have AL:Sep wr.drew (rowH (q.kr x) 3 1 (e.q.ks.map encI)):=(hs.perm p1).left.tail;obtain⟨v1,w1,r1,o1,g1,b1⟩:=Z1X (rv:=q.kr x) (M:=e.q.ks) (ty:=38) T1.1.1 (fun g' Cn hr j y hj=>by
  rw[hr] at AL;exact Q0w AL j _ (by rw[J4M,hj];rfl)) AA (by omega) T1.1.2.size
 have T2:=T1.app o1 g1 b1;have T3:=T2.swap.alloc (.cells #[.int .i64 x] 3);have cn:=Cells.new w1 3 [.int .i64 x];obtain⟨v2,w2,r2,o2,g2,b2⟩:=Z1X (rv:=some (w1.heap.size,1)) (M:=[x]) (ty:=38) T3.1.1 (fun g' Cn hr j y hj=>by
  cases hr
  exact cn.cell j _ (by
   cases j with
   | zero=>simp at hj;subst hj;rfl
   | succ j=>simp at hj)) ⟨J3h _,by unfold maxLen;omega⟩ (by simp;omega) T3.1.2.size
 exact⟨v1,w1,v2,w2,r1,r2,(T3.app o2 g2 b2).swap⟩
theorem OutI.shape{w wr:World}{v:Value}{L:List Int}(h:OutI w wr v L):∃(a:Option Addr) (cap:Nat),v=.slice a L.length cap:=by
 rcases h.1.2 with ⟨rfl,h0⟩|⟨g,cap,Ak,rfl,_⟩
 ·exact⟨none,0,by rw[h0]⟩
 ·exact⟨_,cap,rfl⟩
theorem OutI.shape1{w wr:World}{v:Value}{L:List Int}(h:OutI w wr v L)(hl:L≠[]):∃(g cap:Nat),v=.slice (some ⟨g,0,none⟩) L.length cap:=by
 rcases h.1.2 with ⟨rfl,h0⟩|⟨g,cap,Ak,rfl,_⟩
 ·exact absurd (J5r h0) hl
 ·exact⟨g,cap,rfl⟩
theorem TwoI.startI(w:World)(x:Int):TwoI w (w.alloc (.cells #[.int .i64 x] 3)) (.slice (some ⟨w.heap.size,0,none⟩) 1 1) [x] (.slice none 0 0) []:=by
 have hb:Below w.heap.size w (w.alloc (.cells #[.int .i64 x] 3)):=(Below.refl _ _).alloc (J3h _) _;refine⟨⟨?_,hb⟩,(OutI.nil w).below hb,fun b _=>by simp[Value.ownBlock]⟩;refine⟨by simp,.inr ⟨w.heap.size,1,#[.int .i64 x],rfl,J3h _,Cells.new w 3 [.int .i64 x],J3h _,by unfold maxLen;omega,by simp,by simp⟩⟩
structure BelI(q:FO)(id:Int)(ws M:List Int):Prop where
 eq:M++Q9f (kdF q.N) (rkF q.next) ws=preT (kdF q.N) (rkF q.next) id
 nodes:∀y∈ws,∃e,find q.N y=some e
theorem Z3x{q:FO}(ok:q.Ok){id y:Int}{e:En Nd}(hf:find q.N id=some e)(hy:y∈preT (kdF q.N) (rkF q.next) id):∃e',find q.N y=some e':=by
 have hd:=(Z1N ok.n.tree).1 hy;rcases hd.last with rfl|⟨z,_,hz⟩
 ·exact⟨e,hf⟩
 ·unfold kdF at hz;cases Kx:find q.N z with
  | none=>rw[Kx] at hz;cases hz
  | some p =>
   rw[Kx] at hz;obtain⟨p1,_⟩:=Q0d Kx;obtain⟨k,hk,_⟩:=ok.n.kids p p1 y hz;exact⟨k,hk⟩
theorem Z1Y{q:FO}(ok:q.Ok){id:Int}{e:En Nd}(hf:find q.N id=some e):(preT (kdF q.N) (rkF q.next) id).length<=65536:=by
 have AP:(preT (kdF q.N) (rkF q.next) id).Nodup:=(Q5P ok.n.tree id).imp fun h=>h.1
 have:=J7m AP (l₂:=q.N.map En.id) (fun y hy=>by
  obtain⟨k,hk⟩:=Z3x ok hf hy;obtain⟨k1,k2⟩:=Q0d hk;exact J3n.2 ⟨k,k1,k2⟩)
 rw[J4K] at this;have:=ok.few;omega
theorem BelI.start{q:FO}{id:Int}{e:En Nd}(hf:find q.N id=some e):BelI q id [id] []:=⟨by simp[Q9f],fun y hy=>by
 rw[J5i] at hy;subst hy;exact⟨e,hf⟩⟩
theorem BelI.step{q:FO}(ok:q.Ok){id x:Int}{e:En Nd}{ws M:List Int}(b:BelI q id (ws++[x]) M)(hf:find q.N x=some e):BelI q id (ws++e.q.ks) (M++[x]):=by
 have hk:kdF q.N x=e.q.ks:=by unfold kdF;rw[hf]
 refine⟨?_,fun y hy=>?_⟩
 ·rw[<- b.eq,Z3d ok.n.tree,hk];simp
 ·rcases J3Q.1 hy with hy|hy
  ·exact b.nodes y (by simp[hy])
  ·obtain⟨e1,_⟩:=Q0d hf;obtain⟨k,hk,_⟩:=ok.n.kids e e1 y hy;exact⟨k,hk⟩
theorem BelI.len{q:FO}(ok:q.Ok){id:Int}{e:En Nd}(hf:find q.N id=some e){ws M:List Int}(b:BelI q id ws M):ws.length<=65536/\M.length<=65536/\M.length<=(preT (kdF q.N) (rkF q.next) id).length:=by
 have h1:=Z1Y ok hf;have h2:=Z5X (kdF q.N) (rkF q.next) ok.n.tree ws;rw[<- b.eq,J3N] at h1 ⊢;omega
theorem BelI.done{q:FO}(ok:q.Ok){id:Int}{M:List Int}(b:BelI q id [] M):M.reverse=Q0R (kdF q.N) (rkF q.next) id++[id]:=by
 have h:=b.eq;have h0:Q9f (kdF q.N) (rkF q.next) []=[]:=rfl;rw[h0,J5h,Q3n ok.n.tree] at h;rw[h];simp
def slen:Value->Nat
 | .slice _ n _=>n
 | _=>0
theorem Q9x{w wr:World}{q:FO}(h:Sep w q.hl)(ok:q.Ok){id x:Int}{e:En Nd}(hf:find q.N id=some e){g n cap:Nat}{u:Value}{ws M:List Int}(T:TwoI w wr (.slice (some ⟨g,0,none⟩) n cap) (ws++[x]) u M)(B:BelI q id (ws++[x]) M) :
  n=ws.length+1/\ws.length+1<=cap/\ws.length+1<=65536/\cap<=maxLen/\wr.cell? ⟨g,ws.length,none⟩=some (.int .i64 x)/\∃(xb:Nat) (a0:Option Addr) (n0 c0:Nat),
   (wr.cell? ⟨q.f,0,none⟩=some (.map (some q.m))/\(Instr.lookup 280 (.map (some q.m)) (.int .i64 x) false).run prog wr=.ok (.pointer (some ⟨xb,0,none⟩)) wr/\wr.cell? ⟨xb,3,none⟩=some (.slice a0 n0 c0)) /\
   (wr.drew.cell? ⟨q.f,0,none⟩=some (.map (some q.m))/\(Instr.lookup 280 (.map (some q.m)) (.int .i64 x) false).run prog wr.drew=.ok (.pointer (some ⟨xb,0,none⟩)) wr.drew/\wr.drew.cell? ⟨xb,3,none⟩=some (.slice a0 n0 c0)) /\
   ∃(a1:Option Addr) (n1 c1:Nat) (w1:World) (v2:Value) (w2:World),(Builtin.append_ #[38,38] 38 #[.slice (some ⟨g,0,none⟩) ws.length cap,.slice a0 n0 c0]).run prog wr.drew=.ok (.slice a1 n1 c1) w1 /\
    (Builtin.append_ #[38,38] 38 #[u,.slice (some ⟨w1.heap.size,0,none⟩) 1 1]).run prog (w1.alloc (.cells #[.int .i64 x] 3))=.ok v2 w2 /\
    ∃ws',TwoI w w2 (.slice a1 n1 c1) ws' v2 (M++[x])/\BelI q id ws' (M++[x])/\slen v2=slen u+1/\slen u+1<=(preT (kdF q.N) (rkF q.next) id).length:=by
 obtain⟨Ak,hn,_,_,AW,On,_⟩:=T.1.parts;obtain⟨l1,l2,_⟩:=B.len ok hf;obtain⟨ex,Gv⟩:=B.nodes x (by simp);rw[J3N,J6Z] at hn AW l1;obtain⟨v1,w1,v2,w2,r1,r2,IL⟩:=Z0K h ok Gv T (by omega) l2;have B2:=B.step ok Gv;obtain⟨_,_,l3⟩:=B2.len ok hf;obtain⟨a1,c1,rfl⟩:=IL.1.shape;obtain⟨a2,c2,L7⟩:=IL.2.1.shape;obtain⟨au,cu,hu⟩:=T.2.1.shape;have hs:Sep wr q.hl:=(h.grown T.1.2).sep;have k3:=(FO.nd0 hs Gv).2.2.2;have K9:=(FO.nd0 hs.drew Gv).2.2.2;have PD:=(Q0d Gv).2;rw[PD] at k3 K9;obtain⟨a0,n0,c0,Wo⟩:∃a n c,lvOf (q.kr x) ex.q.ks.length=.slice a n c:=by
  cases q.kr x with
  | none=>exact⟨_,_,_,rfl⟩
  | some p=>exact⟨_,_,_,rfl⟩
 rw[Wo] at k3 K9 r1;refine⟨hn,AW,by omega,On,(T.1.cellAt (j:=ws.length) (x:=x) (by simp)).1,ex.b,a0,n0,c0,⟨FO.c0 hs,FO.look_some hs Gv,k3⟩,⟨FO.c0 hs.drew,FO.look_some hs.drew Gv,K9⟩,a1,_,c1,w1,v2,w2,r1,r2,ws++ex.q.ks,IL,B2,?_,?_⟩
 ·rw[L7,hu];simp[slen]
 ·rw[hu];rw[J3N,J6Z] at l3;exact l3
theorem Z0L{w:World}{q:FO}(h:Sep w q.hl)(ok:q.Ok){id:Int}{e:En Nd}(hf:find q.N id=some e) :
  Calls prog 157 #[.pointer (some ⟨q.f,0,none⟩),.int .i64 id] w (J1r w (Q0R (kdF q.N) (rkF q.next) id)):=by
 have ka:=Q3r h hf;have HH:=Q0a h;have C7:=Q0a ok;have HF:=Q0a hf;obtain⟨-,-,-,-,ES,xb,a0,n0,c0,⟨f0,lk,k3⟩,⟨f0d,lkd,K9⟩,a1,n1,c1,w1,v2,w2,r1,r2,ws',IL,E6,Ab,Ha⟩:=Q9x (ws:=[]) h ok hf (TwoI.startI w id) (BelI.start hf);rw[J5A] at ES r1;have G3:=Q0a r1;have Ji:IntKind.i64.wrap 0=0:=Go.IntWalk.i64_in _ (by omega);have NR:=Q0a IL;have EE:=Q0a E6;clear h ok hf IL E6 r1 Ab Ha;go_enter func157,ntmps157;go_wp2_with fail;refine wp_scope_jumps 0 (fun a' w'=>∃(wv ov:Value) (ws M:List Int) (u7 u8 u9 u10 u11 u12 u13 u14 u15 u16 u17 u18 u19 u20 u21 u22 u23 u24 u25 u26 u27 u28 u29 u30 u31 u32 u33 u34 u35 u36 u37 u38 u39 u40 u41 u42 u43 u44 u45 u46 u47 u48:Value),a'={tmps:=#[.pointer (some ⟨q.f,0,none⟩),.int .i64 id,undef,undef,.slice none 0 0,ov,wv,u7,u8,u9,u10,u11,u12,u13,u14,u15,u16,u17,u18,u19,u20,u21,u22,u23,u24,u25,u26,u27,u28,u29,u30,u31,u32,u33,u34,u35,u36,u37,u38,u39,u40,u41,u42,u43,u44,u45,u46,u47,u48],defers:=[]}/\TwoI w w' wv ws ov M/\BelI q id ws M) (fun a' _=>(preT (kdF q.N) (rkF q.next) id).length-slen (a'.tmps.getD 5 undef)) rfl ?_ ?_
 ·go_wp2_with fail;refine ka.mono ?_;rintro r w'⟨rfl,rfl⟩;go_wp2_with fail
  go_step3
  go_wp2_with fail
  go_region_law (refine Q0B rfl (.tmp 27) (.tmp 36) 38 38 rfl _ _ (by simp[Act.eval]) (by simp[Act.eval]) G3.out ?_)
  all_goals
   go_wp2_with (at_builtin;refine Lib.wpList_append_run _ rfl _ _ _ _ rfl _ _ rfl rfl _ _ r2 ?_)
   go_step3
   refine⟨rfl,.slice a1 n1 c1,v2,ws',[]++[id],_,_,_,_,_,_,_,_,_,_,_,_,_,_,_,_,_,_,_,_,_,_,_,_,_,_,_,_,_,_,_,_,_,_,_,_,_,_,_,_,_,_,rfl,NR.out,EE.out⟩
 ·rintro a' wr⟨wv,ov,ws,M,u7,u8,u9,u10,u11,u12,u13,u14,u15,u16,u17,u18,u19,u20,u21,u22,u23,u24,u25,u26,u27,u28,u29,u30,u31,u32,u33,u34,u35,u36,u37,u38,u39,u40,u41,u42,u43,u44,u45,u46,u47,u48,rfl,hT,hB⟩;have A7:ws=[]∨∃(ws':List Int) (y:Int),ws=ws'++[y]:=by
   rcases List.eq_nil_or_concat ws with h|⟨a,b,h⟩
   ·exact .inl h
   ·exact .inr ⟨a,b,by rw[h,List.concat_eq_append]⟩
  rcases A7 with rfl|⟨ws0,x,rfl⟩
  ·have E9:=hB.done C7.out;have GE:=(hB.len C7.out HF.out).2.1;have Ac:M≠[]:=fun e=>by rw[e] at E9;simp at E9
   obtain⟨aw,cw,rfl⟩:=hT.1.shape;obtain⟨g,co,rfl⟩:=hT.2.1.shape1 Ac;obtain⟨_,_,_,_,LR,_⟩:=hT.2.1.parts;have IV:=Q9w g co M.toArray wr (Z3v hT.2.1) (by simpa using GE);have B3:∀n,J1r w (Q0R (kdF q.N) (rkF q.next) id) (.returned (.slice (some ⟨g,0,none⟩) (Q0R (kdF q.N) (rkF q.next) id).length co)) (Go.Sort.putRow encI (Go.Sort.ahead wr n) g 0 M.toArray.reverse):=fun n=>by
    have h1:=hT.2.1.reversed (k:=n);rw[E9] at h1;have h2:=h1.cut;exact⟨_,rfl,h2.1,h2.2⟩
   have D7:M.length=(Q0R (kdF q.N) (rkF q.next) id).length+1:=by
    have:=congrArg List.length E9
    simpa using this
   have AX:=Q0a B3;rw[show M.toArray.size=M.length from rfl] at IV;rw[D7] at IV LR GE ⊢;generalize hm:(Q0R (kdF q.N) (rkF q.next) id).length=m at *
   have M4:((m:Nat):Int)<=(co:Int):=by omega
   have AW:m<=co:=by omega
   have X7:(m:Int)<65536:=by omega
   have hw:IntKind.i64.wrap (m:Int)=(m:Int):=Go.IntWalk.i64_in _ (by omega);clear B3 hT hB E9 Ac D7 hm GE LR NR EE G3 r2 ES f0 lk k3 f0d lkd K9 ka;generalize J1r w (Q0R (kdF q.N) (rkF q.next) id)=Q at *
   go_wp2_with fail;refine IV.mono ?_;rintro r w3⟨rfl,n,rfl⟩;have HQ:=Q0a (AX.out n);clear IV AX;generalize Go.Sort.putRow encI (Go.Sort.ahead wr n) g 0 M.toArray.reverse=w3 at *
   go_wp2_with fail
   try simp only[Exit.jump]
   (try go_ret);exact HQ.out
  ·clear NR EE G3 r2 ES f0 lk k3 f0d lkd K9 ka Ji;obtain⟨g,cap,rfl⟩:=hT.1.shape1 (by simp);obtain⟨hn,AW,Ts,_,ES,xb,a0,n0,c0,⟨f0,lk,k3⟩,⟨f0d,lkd,K9⟩,a1,n1,c1,w1,v2,w2,r1,r2,ws',IL,E6,Ab,Ha⟩:=Q9x HH.out C7.out HF.out hT hB;have G3:=Q0a r1;have NR:=Q0a IL;have EE:=Q0a E6;obtain⟨au,cu,rfl⟩:=hT.2.1.shape;have Au:(preT (kdF q.N) (rkF q.next) id).length-slen v2<(preT (kdF q.N) (rkF q.next) id).length-slen (.slice au M.length cu):=by omega
   have Qu:=Q0a Au;rw[hn];generalize ws0.length=n at *
   have M4:((n:Nat):Int)<=(cap:Int):=by omega
   have Td:n<=cap:=by omega
   have Mo:(n:Int)<65536:=by omega
   have hw:IntKind.i64.wrap (n:Int)=(n:Int):=Go.IntWalk.i64_in _ (by omega);have Em:(0:Int)<=(n:Int):=by omega
   clear hT hB IL E6 r1 Au Ab Ha hn AW Ts;go_wp2_with fail
   go_region_law (refine Q0B rfl (.tmp 27) (.tmp 36) 38 38 rfl _ _ (by simp[Act.eval]) (by simp[Act.eval]) G3.out ?_)
   all_goals
    go_wp2_with (at_builtin;refine Lib.wpList_append_run _ rfl _ _ _ _ rfl _ _ rfl rfl _ _ r2 ?_)
    go_step3
    refine⟨rfl,⟨.slice a1 n1 c1,v2,ws',M++[x],_,_,_,_,_,_,_,_,_,_,_,_,_,_,_,_,_,_,_,_,_,_,_,_,_,_,_,_,_,_,_,_,_,_,_,_,_,_,_,_,_,_,rfl,NR.out,EE.out⟩,Qu.out⟩
theorem Q6h{w:World}{Z:SP}(hs:Sep w Z.hl)(ok:Z.F.Ok){x z g f:Nat}(hx:x<4294967296)(hz:z<256) :
  Calls prog 156 #[.pointer (some ⟨Z.s,0,none⟩),.agg #[.pointer (some ⟨g,0,none⟩),.int .u32 x,.int .i64 f],.int .i64 z] w (Told w (.int .i64 (ownN Z.F.N (x:Int) (z:Int)))):=by
 have b1:Below w.heap.size w (w.alloc (.cells #[.pointer (some ⟨g,0,none⟩),.int .u32 x,.int .i64 f] 191)):=(Below.refl _ _).alloc (J3h _) _;have s1:=(hs.grown b1).sep;have c1:=SP.c1 s1;have VH:(w.alloc (.cells #[.pointer (some ⟨g,0,none⟩),.int .u32 x,.int .i64 f] 191)).drew.cell? ⟨Z.s,1,none⟩=some (.pointer (some ⟨Z.F.f,0,none⟩)):=c1;have hB:=Cells.new w 191 [.pointer (some ⟨g,0,none⟩),.int .u32 x,.int .i64 f];have q1:=hB.cell 1 _ rfl;have Vu:(w.alloc (.cells #[.pointer (some ⟨g,0,none⟩),.int .u32 x,.int .i64 f] 191)).drew.cell? ⟨w.heap.size,1,none⟩=some (.int .u32 x):=q1;have g1:(0:Int)<=(x:Int):=by omega
 have g2:(x:Int)<9223372036854775808:=by omega
 have g3:(0:Int)<=(z:Int):=by omega
 have g4:(z:Int)<9223372036854775808:=by omega
 have kf:=Z6n (SP.sF s1.drew) ok (sp:=(x:Int)) (sl:=(z:Int)) (Q6a (p:=((x:Int),(z:Int))) g1 g2 g3 g4);have HR:Hid (Below w.heap.size w (w.alloc (.cells #[.pointer (some ⟨g,0,none⟩),.int .u32 x,.int .i64 f] 191)).drew):=b1.drew;have Gg:(x:Int)<4294967296:=by omega
 have Ng:IntKind.i64.wrap (x:Int)=(x:Int):=Go.IntWalk.i64_in _ (by omega);generalize ownN Z.F.N (x:Int) (z:Int)=oid at *
 clear hs ok hx hz b1 s1 hB g2 g3 g4;go_enter func156,ntmps156;go_wp2_with fail
 go_region_held3 (fun w'=>w'.cell? ⟨Z.s,1,none⟩=some (.pointer (some ⟨Z.F.f,0,none⟩))/\w'.cell? ⟨w.heap.size,1,none⟩=some (.int .u32 x)) (first|exact⟨c1,q1⟩|exact⟨VH,Vu⟩)
  (first|(go_at_call 161;refine kf.mono ?_;rintro r w'⟨rfl,rfl⟩))
 go_wp2_with fail
 (try go_ret);exact⟨rfl,HR.out⟩
def revL(q:FO)(id:Int)(self:Bool):List Int:=Q0R (kdF q.N) (rkF q.next) id++if self=true then [id] else []
theorem Z9k{q:FO}(ok:q.Ok){id:Int}{e:En Nd}(hf:find q.N id=some e)(self:Bool):(revL q id self).length<=65537:=by
 have h:=Z1Y ok hf;rw[Q3n ok.n.tree,J3O,List.length_reverse] at h;unfold revL;rw[J3N];split <;> simp <;> omega
theorem Z3y{w:World}{Z:SP}(hs:Sep w Z.hl)(ok:Z.F.Ok){id:Int}{e:En Nd}(hf:find Z.F.N id=some e) :
  Calls prog 157 #[.pointer (some ⟨Z.F.f,0,none⟩),.int .i64 id] w fun r w'=>Below w.heap.size w w'/\∃(a:Option Addr) (cap:Nat),r=.returned (.slice a (Q0R (kdF Z.F.N) (rkF Z.F.next) id).length cap)/\OutI w w' (.slice a (Q0R (kdF Z.F.N) (rkF Z.F.next) id).length cap) (Q0R (kdF Z.F.N) (rkF Z.F.next) id):=by
 refine(Z0L (SP.sF hs) ok hf).mono ?_;rintro r w'⟨v,rfl,h1,h2⟩;obtain⟨a,cap,rfl⟩:=OutI.shape (w:=w) (wr:=w') ⟨h1,h2⟩;exact⟨h2,a,cap,rfl,h1,h2⟩
theorem OutI.aside{w w':World}{H:HL}{v:Value}{L:List Int}(h:OutI w w' v L)(hs:Sep w H):∃(a:Option Addr) (cap:Nat),v=.slice a L.length cap/\AsideV H (L.map encI) a w':=Q7m hs h.1
def RevR(Z:SP)(fr:List Nat)(N K:Nat)(M:Int)(x:Nat)(z mask:Int)(self:Bool)(w:World)(r:Ending)(w':World):Prop:=
 (∃e:Int,r=.returned (.tuple #[.int .i64 0,.int .i64 e])/\Below w.heap.size w w'/\((pget Z.S.l 1 x=none/\e=8)∨∃p,pget Z.S.l 1 x=some p/\((p.kind≠2/\e=10)∨(p.kind=2/\¬(0<=z/\z<256)/\e=2) ∨
  (p.kind=2/\(0<=z/\z<256)/\¬(0<mask/\mask<=15)/\e=1)∨(p.kind=2/\(0<=z/\z<256)/\(0<mask/\mask<=15)/\Q0f Z.S.l Z.tb x z.toNat=none/\e=6)))) ∨
 (∃(s m:Nat) (n:En Nd) (en:Ent),z=(s:Int)/\mask=(m:Int)/\s<256/\1<=m/\m<16/\Q0f Z.S.l Z.tb x s=some en/\n∈Z.F.N/\n.q.sp=(x:Int)/\n.q.sl=(s:Int) /\
  r=.returned (.tuple #[.int .i64 ((Q1I m Z.av (revL Z.F n.id self)).2:Nat),.int .i64 0])/\Q8i Z fr N K M m (revL Z.F n.id self) w w')
theorem Z3z{w:World}{Z:SP}{fr:List Nat}{N K:Nat}{M:Int}(hs:Sep w Z.hl)(ok:Z.Ok fr N K M){x:Nat}(hx:x<4294967296){p:Pl}(hp:pget Z.S.l 1 x=some p)(hk:p.kind=2){s m:Nat}(AC:s<256)(Eb:1<=m)(hm:m<16){en:Ent}(he:Q0f Z.S.l Z.tb x s=some en)(self:Bool) :
  Calls prog 81 #[.pointer (some ⟨Z.s,0,none⟩),.int .u32 x,.int .i64 s,.int .i64 m,.bool self] w (RevR Z fr N K M x (s:Int) (m:Int) self w):=by
 have ks:=Q0Y hs ok.core hx hp hk;have hi:=(pget_some.1 hp).1;have Ao:=(pget_some.1 hp).2.2;obtain⟨n,hn,n1,n2,An,La⟩:=ok.fpi.own ok.fo.n he;have Bb:(Z.tb (x%256)).at' (s:Int)=some en:=by
  unfold TB.at';rw[if_pos ⟨by omega,by omega⟩,J4g,<- Q0h hp hk AC];exact he
 have Au:=ok.fpi.low ok.core.inv.lok he;have HC:Hid (∀(w2:World) (g:Nat),Below w.heap.size w w2->TblZ Z p g w2->Calls prog 93 #[.agg #[.pointer (some ⟨g,0,none⟩),.int .u32 x,.int .i64 (p.fac:Int)],.int .i64 s] (w2.alloc (.cells #[.pointer (some ⟨g,0,none⟩),.int .u32 x,.int .i64 (p.fac:Int)] 191)) (fun r w4=>r=.returned (.tuple #[.agg #[.int .u32 (en.h:Int),.int .i64 (en.r:Int)],.bool true]) /\
   ∀o,Below w.heap.size w (w4.alloc o)/\Cells (w4.alloc o) w2.heap.size 191 [.pointer (some ⟨g,0,none⟩),.int .u32 x,.int .i64 (p.fac:Int)])):=fun w2 g Ae hg=>by
  have Am:Below w2.heap.size w2 (w2.alloc (.cells #[.pointer (some ⟨g,0,none⟩),.int .u32 x,.int .i64 (p.fac:Int)] 191)):=(Below.refl _ _).alloc (J3h _) _;have Be:=Ae.alloc Ae.size (.cells #[.pointer (some ⟨g,0,none⟩),.int .u32 x,.int .i64 (p.fac:Int)] 191);have s2:=(hs.grown Ae).sep;have T:=(ok.tpi.x (p.fac:Int)).tt ok.core hi Ao hk (SP.sS (s2.grown Am).sep) (hg.grown s2 Am).c;refine(Q1y T (x:Int) (p.fac:Int) (s:Int) fun e AD=>by rw[Bb] at AD;cases AD;exact Au).mono ?_;rw[Bb];rintro r w4⟨rfl,Av⟩;have Ey:Below w.heap.size w w4:=Be.trans (Av.mono Be.size);have hB:=(Cells.new w2 191 [.pointer (some ⟨g,0,none⟩),.int .u32 x,.int .i64 (p.fac:Int)]).same (Av.block w2.heap.size (by simp))
  exact⟨rfl,fun o=>⟨Ey.alloc Ey.size o,hB.alloc o⟩⟩
 have DS:=fun W=>Q2F W (s:Int)
 rw[decide_eq_true (show 0<=(s:Int)/\(s:Int)<256 from⟨by omega,by omega⟩)] at DS;have EX:=fun W=>Q3s W (m:Int)
 rw[decide_eq_true (show 0<(m:Int)/\(m:Int)<=15 from⟨by omega,by omega⟩)] at EX;have Ba:=Q0a DS;have Bh:=Q0a EX;have HN:Hid (∀W g,Below w.heap.size w W->Calls prog 156 #[.pointer (some ⟨Z.s,0,none⟩),.agg #[.pointer (some ⟨g,0,none⟩),.int .u32 x,.int .i64 (p.fac:Int)],.int .i64 s] W fun r w'=>r=.returned (.int .i64 n.id)/\Below w.heap.size w w'/\w'.cell? ⟨Z.s,1,none⟩=some (.pointer (some ⟨Z.F.f,0,none⟩)) /\
   Calls prog 157 #[.pointer (some ⟨Z.F.f,0,none⟩),.int .i64 n.id] w' fun r w5=>∃(a:Option Addr) (cap:Nat),r=.returned (.slice a (Q0R (kdF Z.F.N) (rkF Z.F.next) n.id).length cap) /\
    (self=false->Calls prog 158 #[.pointer (some ⟨Z.s,0,none⟩),.int .i64 m,.slice a (Q0R (kdF Z.F.N) (rkF Z.F.next) n.id).length cap] w5 fun r w6=>∃v:Int,r=.returned (.int .i64 v)/\RevR Z fr N K M x (s:Int) (m:Int) self w (.returned (.tuple #[.int .i64 v,.int .i64 0])) w6) /\
    (self=true->∃(a2:Option Addr) (n2 c2:Nat) (w6:World),(Builtin.append_ #[38,38] 38 #[.slice a (Q0R (kdF Z.F.N) (rkF Z.F.next) n.id).length cap,.slice (some ⟨w5.heap.size,0,none⟩) 1 1]).run prog (w5.alloc (.cells #[.int .i64 n.id] 3))=.ok (.slice a2 n2 c2) w6 /\
     Calls prog 158 #[.pointer (some ⟨Z.s,0,none⟩),.int .i64 m,.slice a2 n2 c2] w6 fun r w7=>∃v:Int,r=.returned (.int .i64 v)/\RevR Z fr N K M x (s:Int) (m:Int) self w (.returned (.tuple #[.int .i64 v,.int .i64 0])) w7)):=fun W g Gw=>by
  have sW:=(hs.grown Gw).sep;refine(Q6h sW ok.fo hx AC).mono ?_;rw[An];rintro r w'⟨rfl,Al⟩;have FN:Below w.heap.size w w':=Gw.trans (Al.mono Gw.size);have s':=(hs.grown FN).sep;refine⟨rfl,FN,SP.c1 s',(Z3y s' ok.fo La).mono ?_⟩;rintro r w5⟨As,a,cap,rfl,AS⟩;have Vk:Below w.heap.size w w5:=FN.trans (As.mono FN.size);have Ab:=Z9k ok.fo La self;have fin:∀{w6:World} {v:Value} {L:List Int},L=revL Z.F n.id self->OutI w' w6 v L->∃(a:Option Addr) (cap:Nat),v=.slice a L.length cap/\Calls prog 158 #[.pointer (some ⟨Z.s,0,none⟩),.int .i64 m,.slice a L.length cap] w6 fun r w6=>∃v:Int,r=.returned (.int .i64 v)/\RevR Z fr N K M x (s:Int) (m:Int) self w (.returned (.tuple #[.int .i64 v,.int .i64 0])) w6:=fun {w6 v L} hL ho=>by
   obtain⟨a,cap,rfl,has⟩:=ho.aside s';have BW:Below w.heap.size w w6:=FN.trans (ho.2.mono FN.size);refine⟨a,cap,rfl,(Q6F (hs.grown BW).sep ok m Eb hm L a cap (by rw[hL];omega) has ?_).mono ?_⟩
   ·rw[hL];exact Q9i (a:=Z.av) ok.fo.n n.id self
   ·rintro r w7⟨rfl,Z',k1,k2,k3,k4⟩;rw[hL];rw[hL] at k2;exact⟨_,rfl,.inr ⟨s,m,n,en,rfl,rfl,AC,Eb,hm,he,hn,n1,n2,rfl,Z',k1,k2,k3,(hs.grown BW).trans k4⟩⟩
  refine⟨a,cap,rfl,fun Ii=>?_,fun Ii=>?_⟩
  ·obtain⟨a',Cn,hv,hc⟩:=fin (by unfold revL;rw[Ii];simp) AS;cases hv;exact hc
  ·have Io:(Q0R (kdF Z.F.N) (rkF Z.F.next) n.id).length<=16777216:=by
    unfold revL at Ab;rw[J3N] at Ab;omega
   obtain⟨v',w6,AK,N4⟩:=AS.app Io n.id 38;obtain⟨a',Cn,rfl,hc⟩:=fin (by unfold revL;rw[Ii];simp) N4;exact⟨a',_,Cn,w6,AK,hc⟩
 generalize RevR Z fr N K M x (s:Int) (m:Int) self w=Q at *
 generalize (Q0R (kdF Z.F.N) (rkF Z.F.next) n.id).length=bl at *
 clear hs ok hx hp hk hi Ao he Bb Au hn n1 n2 An La DS EX Eb hm;go_enter func81,ntmps81;go_wp2_with fail;refine ks.mono ?_;rintro r w2⟨g,rfl,Ae,hg⟩;have kc:=HC.out w2 g Ae hg;clear Ae hg HC ks;go_wp2_with fail;refine kc.mono ?_;rintro r w4⟨rfl,hz⟩;obtain⟨Av,Ef⟩:=hz (.cells #[.int .u32 (en.h:Int),.int .i64 (en.r:Int)] 72);have kh:=Ba.out (w4.alloc (.cells #[.int .u32 (en.h:Int),.int .i64 (en.r:Int)] 72));have kr:=Bh.out (w4.alloc (.cells #[.int .u32 (en.h:Int),.int .i64 (en.r:Int)] 72));have kn:=HN.out (w4.alloc (.cells #[.int .u32 (en.h:Int),.int .i64 (en.r:Int)] 72)) g Av
 have b0:=Ef.cell 0 _ rfl;have b1:=Ef.cell 1 _ rfl;have b2:=Ef.cell 2 _ rfl;have Iq:=Q0a kn;clear hz Av Ef kc Ba Bh HN kn;go_wp2_with fail;refine kh.mono ?_;rintro r w'⟨rfl,rfl⟩;go_wp2_with fail;refine kr.mono ?_;rintro r w'⟨rfl,rfl⟩;go_wp2_with fail;refine Iq.out.mono ?_;rintro r w5⟨rfl,As,c5,kb⟩;have SC:=Q0a kb;clear As kb Iq kh kr;go_wp2_with fail;refine SC.out.mono ?_;rintro r w6⟨a,cap,rfl,h1,h2⟩;have H1:=Q0a h1;have H2:=Q0a h2;clear h1 h2 SC b0 b1 b2;cases self with
 | false =>
  have kw:=Q0a (H1.out rfl);clear H1 H2;go_wp2_with fail;refine kw.out.mono ?_;rintro r w7⟨v,rfl,hq⟩;have HQ:=Q0a hq;clear hq kw;go_wp2_with fail
  (try go_ret2);exact HQ.out
 | true =>
  obtain⟨a2,n2,c2,w7,AK,Su⟩:=H2.out rfl;have kw:=Q0a Su;clear H1 H2 Su;go_wp2_with (at_builtin;refine Lib.wpList_append_run _ rfl _ _ _ _ rfl _ _ rfl rfl _ _ AK ?_);refine kw.out.mono ?_;rintro r w8⟨v,rfl,hq⟩;have HQ:=Q0a hq;clear hq kw;go_wp2_with fail
  (try go_ret2);exact HQ.out
theorem Q3t(o:Option Ent):∃(a b:Int),capV o=.tuple #[.agg #[.int .u32 a,.int .i64 b],.bool o.isSome]:=by
 cases o with
 | none=>exact⟨0,0,rfl⟩
 | some e=>exact⟨_,_,rfl⟩
theorem Q4W{w:World}{Z:SP}{fr:List Nat}{N K:Nat}(hs:Sep w Z.hl)(ok:Z.S.Ok fr N K){x:Nat}(hx:x<4294967296)(z mask:Int)(self:Bool)(e:Int)(he:e≠0)(hw:(pget Z.S.l 1 x=none/\e=8)∨∃p,pget Z.S.l 1 x=some p/\p.kind≠2/\e=10) :
  Calls prog 81 #[.pointer (some ⟨Z.s,0,none⟩),.int .u32 x,.int .i64 z,.int .i64 mask,.bool self] w (Told w (.tuple #[.int .i64 0,.int .i64 e])):=by
 have ks:=Q0K hs ok hx e hw;have Ib:(e==0)=false:=by simpa using he
 have HC:Hid (∀w1,Below w.heap.size w w1->∀o,Below w.heap.size w (w1.alloc o)):=fun w1 hb o=>hb.alloc hb.size o
 clear hs ok hx hw;go_enter func81,ntmps81;go_wp2_with fail;refine ks.mono ?_;rintro r w1⟨rfl,Aq⟩;have HQ:=Q0a (HC.out w1 Aq);clear Aq HC ks;go_wp2_with fail
 (try go_ret2);exact⟨rfl,HQ.out _⟩
theorem Q3O{w:World}{Z:SP}{fr:List Nat}{N K:Nat}{M:Int}(hs:Sep w Z.hl)(ok:Z.Ok fr N K M){x:Nat}(hx:x<4294967296){p:Pl}(hp:pget Z.S.l 1 x=some p)(hk:p.kind=2)(z mask:Int)(self:Bool)(e:Int)
  (hw:(¬(0<=z/\z<256)/\e=2)∨((0<=z/\z<256)/\¬(0<mask/\mask<=15)/\e=1)∨((0<=z/\z<256)/\(0<mask/\mask<=15)/\Q0f Z.S.l Z.tb x z.toNat=none/\e=6)) :
  Calls prog 81 #[.pointer (some ⟨Z.s,0,none⟩),.int .u32 x,.int .i64 z,.int .i64 mask,.bool self] w (Told w (.tuple #[.int .i64 0,.int .i64 e])):=by
 have ks:=Q0Y hs ok.core hx hp hk;have hi:=(pget_some.1 hp).1;have Ao:=(pget_some.1 hp).2.2;have Bb:(Z.tb (x%256)).at' z=if 0<=z/\z<256 then Q0f Z.S.l Z.tb x z.toNat else none:=by
  unfold TB.at';split
  ·rename_i h;rw[Q0h hp hk (by omega)]
  ·rfl
 obtain⟨ca,cb,Bx⟩:=Q3t ((Z.tb (x%256)).at' z);have HC:Hid (∀(w2:World) (g:Nat),Below w.heap.size w w2->TblZ Z p g w2->Calls prog 93 #[.agg #[.pointer (some ⟨g,0,none⟩),.int .u32 x,.int .i64 (p.fac:Int)],.int .i64 z] (w2.alloc (.cells #[.pointer (some ⟨g,0,none⟩),.int .u32 x,.int .i64 (p.fac:Int)] 191)) (fun r w4=>r=.returned (.tuple #[.agg #[.int .u32 ca,.int .i64 cb],.bool ((Z.tb (x%256)).at' z).isSome])/\∀o,Below w.heap.size w (w4.alloc o))):=fun w2 g Ae hg=>by
  have Am:Below w2.heap.size w2 (w2.alloc (.cells #[.pointer (some ⟨g,0,none⟩),.int .u32 x,.int .i64 (p.fac:Int)] 191)):=(Below.refl _ _).alloc (J3h _) _;have Be:=Ae.alloc Ae.size (.cells #[.pointer (some ⟨g,0,none⟩),.int .u32 x,.int .i64 (p.fac:Int)] 191);have s2:=(hs.grown Ae).sep;have T:=(ok.tpi.x (p.fac:Int)).tt ok.core hi Ao hk (SP.sS (s2.grown Am).sep) (hg.grown s2 Am).c;refine(Q1y T (x:Int) (p.fac:Int) z fun e AD=>?_).mono ?_
  ·rw[Bb] at AD;split at AD
   ·exact ok.fpi.low ok.core.inv.lok AD
   ·cases AD
  ·rw[Bx];rintro r w4⟨rfl,Av⟩;have Ey:Below w.heap.size w w4:=Be.trans (Av.mono Be.size);exact⟨rfl,fun o=>Ey.alloc Ey.size o⟩
 have Ay:(decide (0<=z/\z<256)=false/\e=2)∨(decide (0<=z/\z<256)=true/\decide (0<mask/\mask<=15)=false/\e=1)∨(decide (0<=z/\z<256)=true/\decide (0<mask/\mask<=15)=true/\((Z.tb (x%256)).at' z).isSome=false/\e=6):=by
  rcases hw with ⟨h1,h2⟩|⟨h1,h2,h3⟩|⟨h1,h2,h3,h4⟩
  ·exact .inl ⟨decide_eq_false h1,h2⟩
  ·exact .inr (.inl ⟨decide_eq_true h1,decide_eq_false h2,h3⟩)
  ·exact .inr (.inr ⟨decide_eq_true h1,decide_eq_true h2,by rw[Bb,if_pos h1,h3];rfl,h4⟩)
 have Ba:Hid (∀W,Calls prog 92 #[.int .i64 z] W fun r w'=>r=.returned (.bool (decide (0<=z/\z<256)))/\W=w'):=fun W=>Q2F W z
 have Bh:Hid (∀W,Calls prog 106 #[.int .i64 mask] W fun r w'=>r=.returned (.bool (decide (0<mask/\mask<=15)))/\W=w'):=fun W=>Q3s W mask
 generalize ((Z.tb (x%256)).at' z).isSome=full at *
 generalize decide (0<=z/\z<256)=bh at *
 generalize decide (0<mask/\mask<=15)=br at *
 clear hs ok hx hp hk hw hi Ao Bb Bx;rcases Ay with ⟨rfl,rfl⟩|⟨rfl,rfl,rfl⟩|⟨rfl,rfl,rfl,rfl⟩
 ·go_enter func81,ntmps81;go_wp2_with fail;refine ks.mono ?_;rintro r w2⟨g,rfl,Ae,hg⟩;have kc:=HC.out w2 g Ae hg;clear Ae hg HC ks;go_wp2_with fail;refine kc.mono ?_;rintro r w4⟨rfl,hz⟩;have HZ:=Q0a (hz (.cells #[.int .u32 ca,.int .i64 cb] 72));have kh:=Ba.out (w4.alloc (.cells #[.int .u32 ca,.int .i64 cb] 72));clear hz kc Ba Bh;go_wp2_with fail;refine kh.mono ?_;rintro r w'⟨rfl,rfl⟩;go_wp2_with fail
  (try go_ret2);exact⟨rfl,HZ.out⟩
 ·go_enter func81,ntmps81;go_wp2_with fail;refine ks.mono ?_;rintro r w2⟨g,rfl,Ae,hg⟩;have kc:=HC.out w2 g Ae hg;clear Ae hg HC ks;go_wp2_with fail;refine kc.mono ?_;rintro r w4⟨rfl,hz⟩;have HZ:=Q0a (hz (.cells #[.int .u32 ca,.int .i64 cb] 72));have kh:=Ba.out (w4.alloc (.cells #[.int .u32 ca,.int .i64 cb] 72));have kr:=Bh.out (w4.alloc (.cells #[.int .u32 ca,.int .i64 cb] 72));clear hz kc Ba Bh;go_wp2_with fail;refine kh.mono ?_;rintro r w'⟨rfl,rfl⟩;go_wp2_with fail;refine kr.mono ?_;rintro r w'⟨rfl,rfl⟩;go_wp2_with fail
  (try go_ret2);exact⟨rfl,HZ.out⟩
 ·go_enter func81,ntmps81;go_wp2_with fail;refine ks.mono ?_;rintro r w2⟨g,rfl,Ae,hg⟩;have kc:=HC.out w2 g Ae hg;clear Ae hg HC ks;go_wp2_with fail;refine kc.mono ?_;rintro r w4⟨rfl,hz⟩;have HZ:=Q0a (hz (.cells #[.int .u32 ca,.int .i64 cb] 72));have kh:=Ba.out (w4.alloc (.cells #[.int .u32 ca,.int .i64 cb] 72));have kr:=Bh.out (w4.alloc (.cells #[.int .u32 ca,.int .i64 cb] 72));clear hz kc Ba Bh;go_wp2_with fail;refine kh.mono ?_;rintro r w'⟨rfl,rfl⟩;go_wp2_with fail;refine kr.mono ?_;rintro r w'⟨rfl,rfl⟩;go_wp2_with fail
  (try go_ret2);exact⟨rfl,HZ.out⟩
theorem Z0M{w:World}{Z:SP}{fr:List Nat}{N K:Nat}{M:Int}(hs:Sep w Z.hl)(ok:Z.Ok fr N K M){x:Nat}(hx:x<4294967296)(z mask:Int)(self:Bool) :
  Calls prog 81 #[.pointer (some ⟨Z.s,0,none⟩),.int .u32 x,.int .i64 z,.int .i64 mask,.bool self] w (RevR Z fr N K M x z mask self w):=by
 cases hp:pget Z.S.l 1 x with
 | none =>
  refine(Q4W hs ok.core hx z mask self 8 (by decide) (.inl ⟨hp,rfl⟩)).mono ?_;rintro r w'⟨rfl,hb⟩;exact .inl ⟨8,rfl,hb,.inl ⟨hp,rfl⟩⟩
 | some p =>
  by_cases hk:p.kind=2
  ·by_cases hz:0<=z/\z<256
   ·by_cases hm:0<mask/\mask<=15
    ·cases he:Q0f Z.S.l Z.tb x z.toNat with
     | none =>
      refine(Q3O hs ok hx hp hk z mask self 6 (.inr (.inr ⟨hz,hm,he,rfl⟩))).mono ?_;rintro r w'⟨rfl,hb⟩;exact .inl ⟨6,rfl,hb,.inr ⟨p,hp,.inr (.inr (.inr ⟨hk,hz,hm,he,rfl⟩))⟩⟩
     | some en =>
      have Rh:((z.toNat:Nat):Int)=z:=by omega
      have Hn:((mask.toNat:Nat):Int)=mask:=by omega
      have:=Z3z (s:=z.toNat) (m:=mask.toNat) hs ok hx hp hk (by omega) (by omega) (by omega) he self;rw[Rh,Hn] at this;exact this
    ·refine(Q3O hs ok hx hp hk z mask self 1 (.inr (.inl ⟨hz,hm,rfl⟩))).mono ?_;rintro r w'⟨rfl,hb⟩;exact .inl ⟨1,rfl,hb,.inr ⟨p,hp,.inr (.inr (.inl ⟨hk,hz,hm,rfl⟩))⟩⟩
   ·refine(Q3O hs ok hx hp hk z mask self 2 (.inl ⟨hz,rfl⟩)).mono ?_;rintro r w'⟨rfl,hb⟩;exact .inl ⟨2,rfl,hb,.inr ⟨p,hp,.inr (.inl ⟨hk,hz,rfl⟩)⟩⟩
  ·refine(Q4W hs ok.core hx z mask self 10 (by decide) (.inr ⟨p,hp,hk,rfl⟩)).mono ?_;rintro r w'⟨rfl,hb⟩;exact .inl ⟨10,rfl,hb,.inr ⟨p,hp,.inl ⟨hk,rfl⟩⟩⟩
section
variable {N:List (En Nd)} {next:Int}
end
section
variable {m:Nat} {a:AV} {next:Int}
end
def J1x(Z:SP)(fr:List Nat)(N K:Nat)(M:Int)(x s h r:Nat)(par:Int)(w w':World):Prop:=∃Z',Z'.Ok fr N K (M+1)/\SameN Z Z'/\Z'.av.en=setA Z.av.en x s (some (h,r))/\(∃b,Z'.av.N=addN Z.F.N par (Z.F.next+1) b (x:Int) (s:Int))/\Z'.F.next=Z.F.next+1/\Step Z.hl Z'.hl w w'
def J2Y(Z:SP)(x:Nat)(z:Int)(h:Nat)(r:Int)(er:Int):Prop:=
 (pget Z.S.l 1 x=none/\er=8)∨∃p,pget Z.S.l 1 x=some p/\((p.kind≠2/\er=10)∨(p.kind=2/\((¬(0<=z/\z<256)/\er=2)∨((0<=z/\z<256)/\((pget Z.S.l 1 h=none/\er=8) ∨
  ∃q,pget Z.S.l 1 h=some q/\((¬((0<r/\r<=15)/\(q.kind=8↔128<=z))/\er=1)∨(((0<r/\r<=15)/\(q.kind=8↔128<=z))/\Q0f Z.S.l Z.tb x z.toNat≠none/\er=7)))))))
def RootR(Z:SP)(fr:List Nat)(N K:Nat)(M:Int)(x:Nat)(z:Int)(h:Nat)(r:Int)(w:World)(er:Int)(w':World):Prop:=
 (er≠0/\J2Y Z x z h r er/\Below w.heap.size w w') ∨
 ∃(s rn:Nat) (p q:Pl),z=(s:Int)/\r=(rn:Int)/\s<256/\1<=rn/\rn<=15/\pget Z.S.l 1 x=some p/\p.kind=2/\pget Z.S.l 1 h=some q/\(q.kind=8↔128<=s)/\Q0f Z.S.l Z.tb x s=none /\
  ((er=0/\J1x Z fr N K M x s h rn 0 w w')∨((er=4∨er=5)/\WhyL Z fr p.fac (x%256) s er/\∃P',Tried Z.S.P fr Z.S.l P'/\Step Z.hl (Z.setS (Z.S.setP P') Z.tb).hl w w'))
theorem Z9l{w w5:World}{Z:SP}{fr:List Nat}{N K:Nat}{M:Int}(ok:Z.Ok fr N K M)(hM:M+1<1099511627776){x s h r:Nat}{p:Pl}(hx:x<4294967296)(hp:pget Z.S.l 1 x=some p)(hk:p.kind=2)(AC:s<256)(h0:Q0f Z.S.l Z.tb x s=none){nd:Nat}(hc:Q6D Z.S.l s ⟨h,r,nd⟩)
  {S':CO} {t':TB} (T:TurnP Z.S fr N K Z.tb (p.fac:Int) (x%256) s (some ⟨h,r,nd⟩) S' t') (st:Step Z.hl (Z.setS S' (updT Z.tb (x%256) t')).hl w w5) {par:Int} (B8:par=0∨∃m em,find Z.F.N par=some m/\Q0G Z.S.l Z.tb m=some em/\h=em.h/\r&&&em.r=r) {w6:World} (BW:Below w5.heap.size w5 w6) :
  w6.cell? ⟨Z.s,1,none⟩=some (.pointer (some ⟨Z.F.f,0,none⟩))/\Calls prog 105 #[.pointer (some ⟨Z.F.f,0,none⟩),.int .i64 par,.int .i64 x,.int .i64 s] w6 fun rv w'=>rv=.returned (.tuple #[.int .i64 (Z.F.next+1),.int .i64 0])/\J1x Z fr N K M x s h r par w w':=by
 have st6:=st.trans (st.sep.grown BW);have Aw:=ok.fpi.free ok.fo.n h0;have Cy:=ok.fpi.few ok.fo.n hp AC h0;have Oh:par=0∨∃e,find Z.F.N par=some e:=B8.imp id fun⟨m,_,h,_⟩=>⟨m,h⟩
 have Bs:=ok.next;refine⟨SP.c1 (Z:=Z.setS S' (updT Z.tb (x%256) t')) st6.sep,(Q8f (SP.sF (Z:=Z.setS S' (updT Z.tb (x%256) t')) st6.sep) ok.fo (par:=par) (sp:=(x:Int)) (sl:=(s:Int)) Oh (by omega) (by omega) (by omega) (by omega) Aw (by show Z.F.next+1<_;omega) Cy).mono ?_⟩;rintro rv w'⟨rfl,F',A,stf⟩;obtain⟨a1,a2,a3,a4⟩:=ok.added hp hk AC h0 hc T B8 A;exact⟨rfl,_,a1,a2,a3,a4,A.next,st6.trans (SP.stepF (Z:=Z.setS S' (updT Z.tb (x%256) t')) st6.sep F' A.f stf)⟩
end Go.Proofs.YtfidemmgofcnmaaGreatDoor
