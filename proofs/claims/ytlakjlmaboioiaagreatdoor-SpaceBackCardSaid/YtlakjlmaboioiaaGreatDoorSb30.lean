/- SpaceBack returns true at every input. No condition. Part of its proof. -/
import Derived.Test.YtlakjlmaboioiaaGreatDoorSb27
import Derived.Shelf.SlSortCmp.WholeK
import Derived.Shelf.SlGeneric
import Derived.Ground.SlsfProg
import Derived.Test.YtlakjlmaboioiaaGreatDoorProg
import Derived.Test.YtlakjlmaboioiaaGreatDoorSb12
import Derived.Test.YtlakjlmaboioiaaGreatDoorSb03
import Derived.Shelf.SlSortCmp.NoneTotal
import Derived.Test.YtlakjlmaboioiaaGreatDoorSb29
import Derived.Test.YtlakjlmaboioiaaGreatDoorSb28
import Derived.Test.YtlakjlmaboioiaaGreatDoorSb01
import Derived.Lib.LaidTab
import Derived.LaidMore
import Derived.MakeChecks
import Derived.Stop.LaidErr
set_option maxHeartbeats 8000000
set_option maxRecDepth 100000
set_option linter.unusedVariables false
namespace Go.Proofs.YtlakjlmaboioiaaGreatDoor
open Go.RowKit Go.Proofs.Tryz
theorem Q9Z {β:Type} (f:Pl->Option β) {l:List Pl} {r:Pl} (h0:l[0]?=some r) (h:∀(i:Nat) (p:Pl),l[i]?=some p->i≠0->f p=none):l.filterMap f=(f r).toList:=by
 cases l with
 | nil=>simp at h0
 | cons x t =>
  have:x=r:=by simpa using h0
  subst this;have ht:t.filterMap f=[]:=by
   rw [J6D];intro p hp;obtain⟨i,hi⟩:=J5l.1 hp;exact h (i+1) p (by rw [J5K];exact hi) (by omega)
  cases hf:f x with
  | none=>rw [J6i hf,ht];rfl
  | some b=>rw [J6j hf,ht];rfl
theorem Z7n {l:List Pl} {r:Pl} (f:Pl->Int) (h0:l[0]?=some r) (h:∀(i:Nat) (p:Pl),l[i]?=some p->i≠0->f p=0):(l.map f).sum=f r:=by
 cases l with
 | nil=>simp at h0
 | cons x t =>
  have:x=r:=by simpa using h0
  subst this;have ht:(t.map f).sum=0:=by
   have:∀p∈t,f p=0:=fun p hp=>by
    obtain⟨i,hi⟩:=J5l.1 hp;exact h (i+1) p (by rw [J5K];exact hi) (by omega)
   clear h h0
   induction t with
   | nil=>rfl
   | cons y s ih =>
    rw [J2A,J6k,this y (by simp),ih fun p hp=>this p (by simp [hp])];rfl
  rw [J2A,J6k,ht];omega
structure J2e (S:CO) (r:Pl):Prop where
 root:S.l[0]?=some r
 kind:r.kind=1
 acc:∃e,S.P.q.E=[e]/\e.id=0/\e.q.charged=64/\e.q.given=0/\e.q.kids=0
 live:allL S.l 1=[0]
 zombies:allL S.l 2=[]
 used:∀k,1<=k->k<=5->S.P.usedOf k=if k=1 then [r.at_] else []
theorem CO.Ok.alone {S:CO} {fr:List Nat} {N K:Nat} (ok:S.Ok fr N K) (h1:∀x p,pget S.l 1 x=some p->x=0) (h2:S.ts=[]) (hx:∀id,S.xc id=0):∃r,J2e S r/\fr=[]:=by
 obtain⟨r,r1,r2,r3,r4,r5,r6⟩:=ok.inv.que.root;have hlen:=ok.inv.len;have hl:S.l.length<=256:=by rw [hlen];exact J2x _
 have hno:∀(i:Nat) (p:Pl),S.l[i]?=some p->i≠0->p.is=false:=fun i p hp hi=>by
  have hi256:i<256:=by have:=(J2O.1 hp).1;omega
  cases his:p.is with
  | false=>rfl
  | true =>
   exfalso;rcases Pl.is_iff.1 his with hs|hs
   ·have:=h1 (nm i p) p (pget_some.2 ⟨by rw [Q0Y hi256];exact hp,by rw [Q0Y hi256],hs⟩);unfold nm at this;omega
   ·have:=(ok.inv.que.has (nm i p)).2 ⟨p,pget_some.2 ⟨by rw [Q0Y hi256];exact hp,by rw [Q0Y hi256],hs⟩⟩;rw [h2] at this;cases this
 have his:r.is=true:=Pl.is_iff.2 (.inl r4);have hats:∀k,Q1T S.l k=(atsF k r).toList:=fun k=>Q9Z (atsF k) r1 fun i p hp hi=>Q1t k (hno i p hp hi)
 have hown:Q7g S.l=[0]:=by
  have:=Q9Z ownF r1 fun i p hp hi=>by simp [ownF,hno i p hp hi]
  rw [Q2D his r2,r6] at this;exact this
 have hused:∀k,1<=k->k<=5->S.P.usedOf k=if k=1 then [r.at_] else []:=fun k k1 k5=>by
  have h:=ok.inv.mem.ats k k1 k5;rw [hats] at h;by_cases e:k=1
  ·subst e;have:atsF 1 r=some r.at_:=by rw [<- r2];exact Q0R his
   rw [this] at h;rw [if_pos rfl];exact (List.singleton_perm.1 h).symm
  ·rw [Q4b (by rw [r2];exact fun h=>e h.symm)] at h;rw [if_neg e];exact J6M.1 h
 have hfr:fr=[]:=by
  have h:=ok.inv.mem.frs;rw [hats,Q4b (by rw [r2];decide)] at h;exact List.map_eq_nil_iff.1 (J6M.1 h)
 have hE:∃e,S.P.q.E=[e]/\e.id=0:=by
  have h:=ok.inv.tre.ids;rw [hown] at h;have hmap:S.P.q.E.map En.id=[0]:=List.perm_singleton.1 h;cases hc:S.P.q.E with
  | nil=>rw [hc] at hmap;cases hmap
  | cons e t =>
   rw [hc] at hmap;simp only [J2A,J2B,List.map_eq_nil_iff] at hmap;exact⟨e,by rw [hmap.2],hmap.1⟩
 obtain⟨e,hE,he0⟩:=hE;have hfe:find S.P.q.E 0=some e:=by rw [hE];simp [find,he0]
 have hcs:Q0v S.l 0=64:=by
  have:=Z7n (Q2R 0) r1 fun i p hp hi=>Q2E 0 (hno i p hp hi)
  unfold Q0v;rw [this,Q1X 0 his,r3,r2];rfl
 have hpar:e.q.parent = -1:=by
  have:=(ok.inv.tre.par r (J4L r1) his r2 e (by rw [r6];exact hfe)).1 r6;exact this
 have hgs:=Q2e (E:=S.P.q.E) (a:=0) fun x hx=>by
  rw [hE,J4E] at hx;rw [hx,hpar];decide
 have hch:=ok.inv.tre.charged 0 e hfe;have hgv:=ok.inv.tre.given 0 e hfe;refine⟨r,⟨r1,r2,⟨e,hE,he0,by rw [hch,hcs,hx];rfl,by rw [hgv.1];exact hgs.1,by rw [hgv.2];exact hgs.2⟩,?_,?_,hused⟩,hfr⟩
 ·have hs:=Q2z hl 1;have h0:0∈allL S.l 1:=(Q1i hl).2 ⟨r,pget_some.2 ⟨r1,by simp [nm,r5],r4⟩⟩;have hall:∀x∈allL S.l 1,x=0:=fun x hx=>by
   obtain⟨p,hp⟩:=(Q1i hl).1 hx;exact h1 x p hp
  cases hc:allL S.l 1 with
  | nil=>rw [hc] at h0;cases h0
  | cons x t =>
   rw [hc] at hs hall;have hx:=hall x (by simp);cases t with
   | nil=>rw [hx]
   | cons y u =>
    have hy:=hall y (by simp);have:=(J2Y.1 hs).1 y (by simp);rw [hx,hy] at this;omega
 ·have hall:∀x,x∉allL S.l 2:=fun x hx=>by
   have:=(ok.inv.que.has x).2 ((Q1i hl).1 hx);rw [h2] at this;cases this
  exact J6y.2 hall
end Go.Proofs.YtlakjlmaboioiaaGreatDoor
namespace Go.Proofs.YtlakjlmaboioiaaGreatDoor
open Go.Shelf Go.Proofs.Tryz
def Z1n:Go.Shelf.Ren:=⟨fun|6=>212|15=>250|14=>249|28=>283|29=>284|20=>275|21=>276|22=>277|23=>278|24=>279|25=>280|26=>281|27=>282|46=>297|47=>298|48=>299|49=>300|50=>301|57=>306|n=>n,fun|22=>124|24=>238|25=>330|3=>3|39=>57|0=>0|53=>26|55=>171|4=>4|46=>370|45=>369|50=>345|5=>5|9=>9|66=>382|70=>386|76=>391|77=>112|n=>n,fun|n=>n⟩
theorem Z7o:Go.Proofs.SlLaysF0.n6 prog Z1n:={
 mixed:=by kernel_rfl
 f6:=⟨f212.name,by decide,func212.trans (congrArg some (by kernel_rfl))⟩
 f14:=⟨f249.name,by decide,func249.trans (congrArg some (by kernel_rfl))⟩
 f15:=func250.trans (congrArg some (by kernel_rfl))
 f20:=⟨f275.name,by decide,func275.trans (congrArg some (by kernel_rfl))⟩
 f21:=⟨f276.name,by decide,func276.trans (congrArg some (by kernel_rfl))⟩
 f22:=⟨f277.name,by decide,func277.trans (congrArg some (by kernel_rfl))⟩
 f23:=⟨f278.name,by decide,func278.trans (congrArg some (by kernel_rfl))⟩
 f24:=⟨f279.name,by decide,func279.trans (congrArg some (by kernel_rfl))⟩
 f25:=⟨f280.name,by decide,func280.trans (congrArg some (by kernel_rfl))⟩
 f26:=⟨f281.name,by decide,func281.trans (congrArg some (by kernel_rfl))⟩
 f27:=⟨f282.name,by decide,func282.trans (congrArg some (by kernel_rfl))⟩
 f28:=func283.trans (congrArg some (by kernel_rfl))
 f29:=func284.trans (congrArg some (by kernel_rfl))
 f46:=⟨f297.name,by decide,func297.trans (congrArg some (by kernel_rfl))⟩
 f47:=func298.trans (congrArg some (by kernel_rfl))
 f48:=func299.trans (congrArg some (by kernel_rfl))
 f49:=⟨f300.name,by decide,func300.trans (congrArg some (by kernel_rfl))⟩
 f50:=⟨f301.name,by decide,func301.trans (congrArg some (by kernel_rfl))⟩
 f57:=⟨f306.name,by decide,func306.trans (congrArg some (by kernel_rfl))⟩
 t0:=underlying0
 a0:=isAgg0
 z0:=sizeOf0
 v0:=zeroValue0
 t3:=underlying3
 a3:=isAgg3
 z3:=sizeOf3
 v3:=zeroValue3
 t4:=underlying4
 a4:=isAgg4
 z4:=sizeOf4
 v4:=zeroValue4
 t5:=underlying5
 a5:=isAgg5
 z5:=sizeOf5
 v5:=zeroValue5
 t9:=underlying9
 a9:=isAgg9
 z9:=sizeOf9
 v9:=zeroValue9
 t22:=underlying124
 a22:=isAgg124
 z22:=sizeOf124
 v22:=zeroValue124
 t25:=underlying330
 a25:=isAgg330
 z25:=sizeOf330
 v25:=zeroValue330
 t39:=underlying57
 a39:=isAgg57
 z39:=sizeOf57
 v39:=zeroValue57
 t45:=underlying369
 a45:=isAgg369
 z45:=sizeOf369
 v45:=zeroValue369
 t46:=underlying370
 a46:=isAgg370
 z46:=sizeOf370
 v46:=zeroValue370
 t50:=underlying345
 a50:=isAgg345
 z50:=sizeOf345
 v50:=zeroValue345
 t53:=underlying26
 a53:=isAgg26
 z53:=sizeOf26
 v53:=zeroValue26
 t55:=underlying171
 a55:=isAgg171
 z55:=sizeOf171
 v55:=zeroValue171
 t66:=underlying382
 a66:=isAgg382
 z66:=sizeOf382
 v66:=zeroValue382
 t70:=underlying386
 a70:=isAgg386
 z70:=sizeOf386
 v70:=zeroValue386
 t76:=underlying391
 a76:=isAgg391
 z76:=sizeOf391
 v76:=zeroValue391
 t77:=underlying112
 a77:=isAgg112
 z77:=sizeOf112
 v77:=zeroValue112}
end Go.Proofs.YtlakjlmaboioiaaGreatDoor
namespace Go.Proofs.YtlakjlmaboioiaaGreatDoor
open Go.RowKit Go.Shelf Go.Proofs.Tryz
open Go.Sort (flatK HoldsK putRowK)
theorem Z1o (x y:Nat×Nat) (W:World):Calls prog 213 #[.agg (encB x).toArray,.agg (encB y).toArray] W fun e w'=>e=.returned (.int .i64 (cmpI (x.1:Int) (y.1:Int)))/\∃q os',w'=Go.Sort.grow (W.drewN q) os':=by
 have hc:=fun w:World=>Z4F (w:=w) (x.1:Int) (y.1:Int)
 generalize cmpI (x.1:Int) (y.1:Int)=c at *
 unfold encB;go_enter func213,ntmps213;go_wp2_with (go_at_call 214;refine (hc _).mono ?_;rintro e w' ⟨rfl,rfl⟩);go_ret;exact⟨rfl,0,_,by rw [Go.Sort.alloc_eq_grow,Go.Sort.alloc_eq_grow,Go.Sort.grow_grow];rfl⟩
def cfB (x y:Nat×Nat):Int:=cmpI (x.1:Int) (y.1:Int)
theorem ltB (x y:Nat×Nat):ltOf cfB x y=decide (x.1<y.1):=by
 unfold ltOf cfB cmpI;by_cases h1:(x.1:Int)<(y.1:Int)
 ·have:x.1<y.1:=by omega
  simp [h1,this]
 ·have h1':¬x.1<y.1:=by omega
  by_cases h2:(y.1:Int)<(x.1:Int) <;> simp [h1,h1',h2]
theorem swoB:Go.Sort.SWO (ltOf cfB) where
 irrefl x:=by rw [ltB];simp
 trans x y z h1 h2:=by rw [ltB] at *;simp at *;omega
 ntrans x y z h1 h2:=by rw [ltB] at *;simp at *;omega
theorem Z1p (l:List (Nat×Nat)) (k:Nat) (x:Nat×Nat) (h:l[k]?=some x):(Q1b l)[k*2]?=some (.int .i64 (x.1:Int))/\(Q1b l)[k*2+1]?=some (.int .i64 (x.2:Int)):=by
 induction l generalizing k with
 | nil=>simp at h
 | cons y r ih =>
  cases k with
  | zero=>simp at h;subst h;exact⟨rfl,rfl⟩
  | succ k =>
   have:=ih k (by simpa using h);have e1:(k+1)*2=(k*2)+1+1:=by omega
   have e2:(k+1)*2+1=(k*2+1)+1+1:=by omega
   rw [e1];exact⟨this.1,this.2⟩
theorem Q6L (l:List (Nat×Nat)):(Q1b l).length=l.length*2:=by
 induction l with
 | nil=>rfl
 | cons y r ih =>
  show (_::_::Q1b r).length=_;simp [ih];omega
theorem Z0a (d:Array (Nat×Nat)):(flatK encB 2 d).toList=Q1b d.toList:=by
 apply J4f
 intro t;rcases J5f t (d.size*2) with h|h
 ·have hk:t/2<d.size:=by omega
  have hx:d.toList[t/2]?=some d[t/2]!:=by
   rw [getElem!_pos d (t/2) hk,J4X,Array.getElem?_eq_getElem hk]
  obtain⟨e1,e2⟩:=Z1p d.toList (t/2) _ hx;have e0:(flatK encB 2 d).toList[t]?=some ((encB d[t/2]!)[t%2]!):=by
   simp [flatK,h]
  rw [e0];rcases Nat.mod_two_eq_zero_or_one t with hm|hm
  ·have ht:t=t/2*2:=by omega
   rw [hm]
   conv=>rhs;rw [ht]
   rw [e1];rfl
  ·have ht:t=t/2*2+1:=by omega
   rw [hm]
   conv=>rhs;rw [ht]
   rw [e2];rfl
 ·rw [J4m (by simp;omega),J4m (by rw [Q6L];simpa using h)]
theorem Z4l {d d':Array (Nat×Nat)} (h:Go.Sort.PermIn 0 d.size d d'):d'.toList.Perm d.toList/\d'.size=d.size:=by
 obtain⟨h1,_,h3⟩:=h;refine⟨?_,h1⟩;have e1:d'.extract 0 d.size=d':=by rw [<- h1];simp
 rw [e1] at h3
 simpa using h3
theorem Z1q {d:Array (Nat×Nat)} {n:Nat} (hn:n=d.size) (h:Go.Sort.SortedIn (ltOf cfB) 0 n d):d.toList.Pairwise (fun a b=>a.1<=b.1):=by
 subst hn;rw [J5z];intro i j hi hj hij;have:=h i j (J4z _) hij (by simpa using hj);rw [ltB] at this;simp only [decide_eq_false_iff_not,Nat.not_lt] at this;rw [getElem!_pos d i (by simpa using hi),getElem!_pos d j (by simpa using hj)] at this
 simpa using this
theorem Z0b {w:World} {g:Nat} {cur:Array Value} {e:TypeId} {L:List (Nat×Nat)} (hb:w.heap[g]?=some (.cells cur e (0,0))) (ht:cur.toList.take (L.length*2)=Q1b L):HoldsK encB 2 w g 0 L.toArray:=by
 intro j hj;have hj':j<L.length*2:=by simpa using hj
 refine⟨?_,by simp [World.frozen?,hb]⟩;have h1:(cur.toList.take (L.length*2))[j]?=(flatK encB 2 L.toArray).toList[j]?:=by rw [ht,Z0a]
 rw [J6U hj'] at h1;simp only [World.cell?,hb,J5b,J5A,J6q,if_false,id];rw [<- J4X,h1,getElem!_pos _ j hj];simp [hj']
theorem Q6R (cur F:Array Value) (h:F.size<=cur.size):(Go.Sort.putCells id 0 F cur).toList.take F.size=F.toList:=by
 apply J4f
 intro j;by_cases hj:j<F.size
 ·rw [J6U hj,J4X];simp [Go.Sort.putCells,hj,show j<cur.size by omega]
 ·rw [J6V (by omega),J4m (by simp;omega)]
theorem Z0c {w:World} {g n:Nat} {os:Array Obj} {cur:Array Value} {e:TypeId} (d:Array (Nat×Nat)) (hb:w.heap[g]?=some (.cells cur e (0,0))) :
  (sortWorldK encB 2 w g 0 n d os).heap[g]?=some (.cells (Go.Sort.putCells id 0 (flatK encB 2 d) cur) e (0,0)):=by
 have hg:g<w.heap.size:=(J6W.1 hb).1;unfold sortWorldK putRowK;rw [Go.Sort.heap_grow_old _ _ (by simpa using hg)];simp [Go.Sort.putRow,Go.Sort.mapBlock,Go.Sort.ahead,J2w,hb,Go.Sort.onCells]
theorem Q8q {w:World} {g n:Nat} {os:Array Obj} (d:Array (Nat×Nat)):w.grownBy (sortWorldK encB 2 w g 0 n d os) (some g):=by
 unfold sortWorldK putRowK;refine⟨rfl,rfl,rfl,by simp,fun k hk hne=>?_⟩;rw [Go.Sort.heap_grow_old _ _ (by simpa using hk)];have:g≠k:=fun e=>hne (by rw [e])
 simp [Go.Sort.putRow,Go.Sort.mapBlock,Go.Sort.ahead,J2w,this]
theorem Z4m {w w1:World} {v:Value} {L:List (Nat×Nat)} (h:OutB w w1 v L) (hl:L.length<=22020096):Calls prog 133 #[v] w1 (Q6i w.heap.size L v w1):=by
 obtain⟨⟨hlen,hrow⟩,hb⟩:=h;rcases hrow with ⟨rfl,h0⟩|⟨g,cap,cur,rfl,hg,hgb,hn,hm,hs,ht⟩
 ·have hL:L=[]:=J4N h0;subst hL;have hcon:=AnyF.slices_SortFunc_none Z7o none 0 (.func (.func 213) #[] #[]) w1
  change Calls prog 212 _ _ _ at hcon
  have HR:Hid (Q6i w.heap.size [] (.slice none 0 0) w1 (.returned (.slice none 0 0)) w1):=⟨rfl,[],J5R _,List.Pairwise.nil,⟨rfl,.inl ⟨rfl,rfl⟩⟩,Below.refl _ _⟩
  clear hlen hb h0 hl;go_enter func133,ntmps133;go_wp2_with (go_at_call 212;refine hcon.mono ?_;rintro e w' ⟨rfl,rfl⟩);go_ret;exact HR.out
 ·have eg:∀args w,(callFunc 213 args).run prog w=.ok (.enter 213 args) w:=enters_of func213 (by kernel_rfl) rfl;have hcm:CmpLays prog 213 #[] encB 2 cfB g 0 L.toArray.size w1:=fun _ _ _ _ x y=>Z1o x y _
  have hcon:=AnyQ.slices_SortFunc Z7o 2 isAgg238 sizeOf238 encB (fun _=>rfl) (fun x v hv=>by simp [encB] at hv;rcases hv with rfl|rfl <;> rfl) cfB swoB 213 #[] g 0 cap L.toArray w1 eg hcm (Z0b hgb ht) (lt_of_block hgb) (by simp;omega)
  change Calls prog 212 _ _ _ at hcon
  have HR:Hid (∀w2,(∃d' n os,Go.Sort.PermIn 0 L.toArray.size L.toArray d'/\Go.Sort.SortedIn (ltOf cfB) 0 L.toArray.size d'/\w2=sortWorldK encB 2 w1 g 0 n d' os)->Q6i w.heap.size L (.slice (some ⟨g,0,none⟩) L.length cap) w1 (.returned (.slice (some ⟨g,0,none⟩) L.length cap)) w2):=by
   rintro w2 ⟨d',n,os,hp,hsd,rfl⟩;obtain⟨p1,p2⟩:=Z4l hp;have p1':d'.toList.Perm L:=by simpa using p1
   have p3:d'.toList.length=L.length:=p1'.length_eq;refine⟨rfl,d'.toList,p1',Z1q p2.symm hsd,⟨Q6L _,.inr ⟨g,cap,_,by rw [p3],hg,Z0c d' hgb,by rw [p3];exact hn,hm,by simp [Go.Sort.putCells,hs],?_⟩⟩,?_⟩
   ·have e:d'.toList.length*2=(flatK encB 2 d').size:=by simp
    rw [e,Q6R _ _ (by rw [<- e,p3,hs];omega),Z0a]
   ·have hgr:=Q8q (w:=w1) (g:=g) (n:=n) (os:=os) d';exact⟨hgr.os,hgr.tape,hgr.output,hgr.size,fun k hk=>by
     rcases J5f k w1.heap.size with e|e
     ·exact hgr.block k e (fun e'=>by cases e';omega)
     ·have:=hb.size;omega⟩
  rw [J5c] at hcon;have HCon:Hid (∀(r:Ending) (w2:World),(r=.returned (.tuple #[])/\∃d' n os,Go.Sort.PermIn 0 L.length L.toArray d'/\Go.Sort.SortedIn (ltOf cfB) 0 L.length d'/\w2=sortWorldK encB 2 w1 g 0 n d' os)->r=.returned (.tuple #[])/\Q6i w.heap.size L (.slice (some ⟨g,0,none⟩) L.length cap) w1 (.returned (.slice (some ⟨g,0,none⟩) L.length cap)) w2):=fun r w2 ⟨e,hx⟩=>⟨e,HR.out w2 (by simpa using hx)⟩
  clear HR hlen hgb ht hs hn hm hcm eg hl hb hg;generalize L.length=ll at *
  go_enter func133,ntmps133;go_wp2_with fail;refine hcon.mono ?_;intro r w2 hx;obtain⟨rfl,hy⟩:=HCon.out _ _ hx;have HY:=Q0a hy;clear hx hy;go_wp2_with fail;go_ret;exact HY.out
theorem Z0d {w:World} {d:BD} {G:Nat->Nat->Bool} (h:Sep w d.hl) (hi:d.Is G):Calls prog 55 #[.pointer (some ⟨d.b,0,none⟩)] w (NewBlks w (Q1z G d.top (d.top+1))):=
 Z5Y h hi fun _ _ _ ho hl _=>Z4m ho hl
end Go.Proofs.YtlakjlmaboioiaaGreatDoor
namespace Go.Proofs.YtlakjlmaboioiaaGreatDoor
open Go.RowKit Go.Proofs.Tryz
theorem Step.beside {w w':World} {A A' D:HL} (h:Sep w (A++D)) (st:Step A A' w w'):Step (A++D) (A'++D) w w':=Step.frame [] D h st
structure BeS (S D:CO):Prop where
 ok:∃fr N K,S.Ok fr N K
 okd:D.Ok [] 1 0
 al:∃r,J2e S r
 top:S.P.d.top=6
 topd:D.P.d.top=6
 ps:S.P.d.ps.Perm [0]
 psd:D.P.d.ps=[0]
section
variable {S D:CO} {w wr:World}
theorem J1o (e:BeS S D) (st:Step [] (S.hl++D.hl) w wr):∃pp bb:Nat,(Calls prog 49 #[.pointer (some ⟨S.c,0,none⟩)] wr fun r w'=>r=.returned (.pointer (some ⟨pp,0,none⟩))/\wr=w') /\
  (Calls prog 54 #[.pointer (some ⟨pp,0,none⟩)] wr fun r w'=>r=.returned (.pointer (some ⟨bb,0,none⟩))/\wr=w') /\
  (Calls prog 55 #[.pointer (some ⟨bb,0,none⟩)] wr fun r w1=>∃(a:Option Addr) (len cap pd bd:Nat),r=.returned (.slice a len cap) /\
   (Calls prog 49 #[.pointer (some ⟨D.c,0,none⟩)] w1 fun r w'=>r=.returned (.pointer (some ⟨pd,0,none⟩))/\w1=w') /\
   (Calls prog 54 #[.pointer (some ⟨pd,0,none⟩)] w1 fun r w'=>r=.returned (.pointer (some ⟨bd,0,none⟩))/\w1=w') /\
   (Calls prog 55 #[.pointer (some ⟨bd,0,none⟩)] w1 fun r w2=>∃(a':Option Addr) (cap':Nat),r=.returned (.slice a' len cap') /\
    Calls prog 53 #[.slice a len cap,.slice a' len cap'] w2 (Told w (.bool true)))):=by
 obtain⟨fr,N,K,ok⟩:=e.ok;have s1:Sep wr S.hl:=st.sep.left;refine⟨S.P.p,S.P.d.b,Q1d s1,Q5U (CO.sP s1),?_⟩;refine (Z0d (PL.sD (CO.sP s1)) ok.inv.mem.pool.d.is).mono ?_;intro r w1 hr;obtain⟨a,cap,L,rfl,hp,hs,hb,hrd,_⟩:=hr.reads;have st1:=st.trans (st.sep.grown hb);have s2:Sep w1 D.hl:=st1.sep.right;refine⟨a,L.length,cap,D.P.p,D.P.d.b,rfl,Q1d s2,Q5U (CO.sP s2),?_⟩;refine (Z0d (PL.sD (CO.sP s2)) e.okd.inv.mem.pool.d.is).mono ?_;intro r w2 hr2;obtain⟨a',cap',M,rfl,hp',hs',hb',hrd',_⟩:=hr2.reads;have st2:=st1.trans (st1.sep.grown hb');have hu:∀p,uOf S.P.d.ps p=uOf D.P.d.ps p:=fun p=>by
  unfold uOf;rw [e.psd];have:p∈S.P.d.ps↔p∈[0]:=e.ps.mem_iff;simp only [this]
 rw [e.top] at hp;rw [e.topd] at hp';have hLM:L=M:=Z5Z hu hp hp' hs hs';subst hLM;refine⟨a',cap',rfl,?_⟩;have hlen:L.length<=33554432:=by
  rw [hp.length_eq];exact J2y (Q3H _ 6 (by omega) 7) (by omega)
 refine (Z6a w2 a a' cap cap' L (hrd.below hb') hrd' hlen).mono ?_;rintro r w3 ⟨rfl,hb3⟩;exact⟨rfl,(st2.trans (st2.sep.grown hb3)).fresh⟩
theorem J2f (e:BeS S D) (st:Step [] (S.hl++D.hl) w wr):∃pp qt:Nat,(Calls prog 49 #[.pointer (some ⟨S.c,0,none⟩)] wr fun r w'=>r=.returned (.pointer (some ⟨pp,0,none⟩))/\wr=w') /\
  (Calls prog 51 #[.pointer (some ⟨pp,0,none⟩)] wr fun r w'=>r=.returned (.pointer (some ⟨qt,0,none⟩))/\wr=w') /\
  (Calls prog 52 #[.pointer (some ⟨qt,0,none⟩),.int .i64 0] wr fun r w1=>r=.returned (.int .i64 64)/\Step [] (S.hl++D.hl) w w1):=by
 obtain⟨fr,N,K,ok⟩:=e.ok;obtain⟨r,al⟩:=e.al;obtain⟨x,hE,x0,xc,xg,xk⟩:=al.acc;have hf:find S.P.q.E 0=some x:=by rw [hE];unfold find;rw [if_pos x0.symm]
 have s1:Sep wr S.hl:=st.sep.left;refine⟨S.P.p,S.P.q.t,Q1d s1,Q7b (CO.sP s1),?_⟩;have hu:=Q8F (PL.sQ (CO.sP s1)) ok.inv.mem.pool.q hf;rw [xc,xg] at hu;refine hu.mono ?_;rintro r w1 ⟨rfl,hb⟩;exact⟨rfl,st.trans (st.sep.grown hb)⟩
theorem J1p (e:BeS S D) (st:Step [] (S.hl++D.hl) w wr):Calls prog 32 #[.pointer (some ⟨S.c,0,none⟩)] wr fun r w1=>∃(a:Option Addr) (cap:Nat),r=.returned (.slice a 1 cap) /\
  Calls prog 34 #[.pointer (some ⟨S.c,0,none⟩)] w1 fun r w2=>∃(a:Option Addr) (cap:Nat),r=.returned (.slice a 0 cap)/\Step [] (S.hl++D.hl) w w2:=by
 obtain⟨fr,N,K,ok⟩:=e.ok;obtain⟨r,al⟩:=e.al;refine (Q4L st.sep.left ok.inv.lok).mono ?_;intro r w1 hr;rw [al.live] at hr;obtain⟨a,cap,rfl,hb,_⟩:=hr.aside st.sep;have st1:=st.trans (st.sep.grown hb);refine⟨a,cap,rfl,?_⟩;refine (Q9g st1.sep.left ok.inv.lok).mono ?_;intro r w2 hr;rw [al.zombies] at hr;obtain⟨a,cap,rfl,hb,_⟩:=hr.aside st1.sep;exact⟨a,cap,rfl,st1.trans (st1.sep.grown hb)⟩
end
theorem J1q (L M:List Nat) (h:L.Nodup) (hs:∀x∈L,x∈M):L.length<=M.length:=h.length_le_of_subset fun x hx=>hs x hx
theorem Z4n {l:List Pl} (hl:l.length<=256) (s:Nat):(allL l s).Nodup:=(Q2z hl s).imp fun h e=>by rw [e] at h;omega
theorem Z7p {l:List Pl} (hl:l.length<=256) {s x:Nat} (h:(allL l s)[1]?=some x):x≠0:=by
 have hs:=Q2z hl s;cases hc:allL l s with
 | nil=>rw [hc] at h;simp at h
 | cons a t =>
  rw [hc] at h hs;cases t with
  | nil=>simp at h
  | cons b u =>
   obtain rfl:b=x:=by simpa using h
   have:=(J2Y.1 hs).1 b (by simp);intro e;rw [e] at this;omega
def BkL (s c:Nat) (D:CO) (n len:Nat) (w wr:World):Prop:=∃(Z:SP) (fr:List Nat),Z.s=s/\Z.S.c=c/\Z.Ok fr 61 60 15360/\BegZ Z/\(allL Z.S.l 1).length=len/\len+n<=256/\Step [] (Z.hl++D.hl) w wr
theorem J2g {w w1:World} {s:Nat} (h:AtB s 61 60 15360 w w1):Calls prog 15 #[.int .i64 65536,.int .i64 65536,.int .i64 2] w1 fun r w2=>∃(D:CO) (c len:Nat),r=.returned (.pointer (some ⟨D.c,0,none⟩))/\Q6F D 6 65536 2/\BkL s c D 0 len w w2:=by
 obtain⟨Z,fr,rfl,ok,b,st⟩:=h;have h16:((2 ^ (6+10):Nat):Int)=65536:=by decide
 have h2:=Q8n st.sep 6 (by omega) (by omega) 65536 (by omega) (by rw [h16];omega) 2 (by omega) (by omega);rw [h16] at h2;refine h2.mono ?_;rintro r w3 ⟨D,rfl,hfd,std⟩;have st2:Step Z.hl (Z.hl++D.hl) w1 w3:=std.perm (J5R _) J5k;exact⟨D,Z.S.c,_,rfl,hfd,Z,fr,rfl,rfl,ok,b,rfl,Z2p ok.core.inv.len,st.trans st2⟩
theorem Z7q {s c:Nat} {D:CO} {n len:Nat} {w wr:World} (h:BkL s c D n len w wr):Calls prog 29 #[.pointer (some ⟨s,0,none⟩)] wr fun r w'=>r=.returned (.pointer (some ⟨c,0,none⟩))/\wr=w':=by
 obtain⟨Z,fr,rfl,rfl,ok,b,_,_,st⟩:=h;exact Q3r st.sep.left
theorem Z7r {s c:Nat} {D:CO} {n len:Nat} {w wr:World} (h:BkL s c D n len w wr):Calls prog 32 #[.pointer (some ⟨c,0,none⟩)] wr fun r w1=>∃(a:Option Addr) (cap:Nat),r=.returned (.slice a len cap)/\BkL s c D n len w w1/\len<=256 /\
  (1<len->∃x g:Nat,a=some ⟨g,0,none⟩/\w1.cell? ⟨g,1,none⟩=some (.int .u32 x)/\Calls prog 35 #[.pointer (some ⟨s,0,none⟩),.int .u32 x] w1 fun r w2=>∃(a:Value) (len':Nat),r=.returned (.tuple #[a,.int .i64 0])/\BkL s c D (n+1) len' w w2):=by
 obtain⟨Z,fr,rfl,rfl,ok,b,hlen,hn,st⟩:=h;have hlok:=ok.core.inv.lok;have hl256:Z.S.l.length<=256:=by rw [hlok.1];exact J2x _
 refine (Q4L (SP.sS (Z:=Z) st.sep.left) hlok).mono ?_;intro r w1 hr;obtain⟨a,cap,rfl,hb,hi⟩:=hr.shape;rw [hlen];have st1:=st.trans (st.sep.grown hb);refine⟨a,cap,rfl,⟨Z,fr,rfl,rfl,ok,b,hlen,hn,st1⟩,by omega,fun h1=>?_⟩;obtain⟨x,hx⟩:∃x,(allL Z.S.l 1)[1]?=some x:=⟨_,J4O (by rw [hlen];exact h1)⟩
 obtain⟨g,rfl,_,_,hc⟩:=hi.at' 1 x hx;have hxm:=J4L hx;obtain⟨p,hp⟩:=(Q1i hl256).1 hxm;have h0:=Z7p hl256 hx;refine⟨x,g,rfl,hc,?_⟩;refine (Q6G (Z:=Z) st1.sep.left ok (by omega) (Z1e hlok hp)).mono ?_;rintro r w2 (⟨hno,_,_⟩|⟨hz,_,_⟩|⟨_,_,a2,cap2,rfl,Z',I,st2,_⟩)
 ·rw [hp] at hno;cases hno
 ·exact absurd hz h0
 ·have h0m:0∉Q8o Z.S x:=fun hm=>by
   obtain⟨A,B,e⟩:=J6F hm;obtain⟨_,_,h2,_⟩:=Z0Y ok.core.inv.tree hp h0 A 0 B e;exact h2 rfl
  have hg:=I.gone h0m;have hxk:x∈Q8o Z.S x:=by unfold Q8o;simp
  have hl256':Z'.S.l.length<=256:=by rw [I.ok.core.inv.len];exact J2x _
  have hless:(allL Z'.S.l 1).length<(allL Z.S.l 1).length:=by
   have:=J1q (x::allL Z'.S.l 1) (allL Z.S.l 1) (J3t.2 ⟨(fun hm=>by
    obtain⟨q,hq⟩:=(Q1i hl256').1 hm;rw [I.live x,if_pos hxk] at hq;cases hq),Z4n hl256' 1⟩) (fun y hy=>by
     rcases J2C.1 hy with rfl|hy
     ·exact hxm
     ·obtain⟨q,hq⟩:=(Q1i hl256').1 hy;rw [I.live y] at hq;split at hq
      ·cases hq
      ·exact (Q1i hl256).2 ⟨q,hq⟩)
   rw [J3i] at this;omega
  exact⟨_,(allL Z'.S.l 1).length,rfl,Z',fr,hg.s,hg.c,I.ok,b.gone hg,rfl,by omega,st1.trans (Step.beside st1.sep st2)⟩
def BtZ (c:Nat) (D:CO) (t0 i:Nat) (w wr:World):Prop:=∃(S:CO) (fr:List Nat),S.c=c/\S.Ok fr 61 (60+i)/\S.now=t0+i/\(∀x p,pget S.l 1 x=some p->x=0)/\(∀t∈S.ts,t.2<=t0+2)/\(∀id,S.xc id=0)/\S.P.usedOf 6=[]/\S.P.usedOf 7=[]/\S.P.d.top=6/\pget S.l 1 0=some ⟨1,64,0,1,0,0⟩/\Step [] (S.hl++D.hl) w wr
theorem Z9F {s c:Nat} {D:CO} {n len:Nat} {w wr:World} (h:BkL s c D n len w wr) (hl:len<=1):∃t0,BtZ c D t0 0 w wr:=by
 obtain⟨Z,fr,rfl,rfl,ok,b,hlen,hn,st⟩:=h;have hl256:Z.S.l.length<=256:=by rw [ok.core.inv.len];exact J2x _
 have h0:0∈allL Z.S.l 1:=(Q1i hl256).2 ⟨_,b.root⟩;have hlv:∀x p,pget Z.S.l 1 x=some p->x=0:=fun x p hp=>by
  have hx:=(Q1i hl256).2 ⟨p,hp⟩;cases hc:allL Z.S.l 1 with
  | nil=>rw [hc] at h0;cases h0
  | cons a t =>
   rw [hc] at h0 hx hlen;have ht:t=[]:=J4N (by rw [J3i] at hlen;omega);subst ht;rw [J4E] at h0 hx;rw [hx,<- h0]
 have hnil:∀i,i<256->(Z.tb i).Nil:=fun i hi=>by
  obtain⟨p,hp⟩:∃p,Z.S.l[i]?=some p:=⟨_,J4O (by rw [ok.core.inv.len];exact hi)⟩
  refine ok.tpi.nil i p hp fun ⟨h1,h2⟩=>?_
  have hg:pget Z.S.l 1 (nm i p)=some p:=pget_some.2 ⟨by rw [Q0Y hi];exact hp,by rw [Q0Y hi],h1⟩;have h3:=hlv _ _ hg;rw [h3,b.root] at hg;cases hg;cases h2
 have lst:∀f:TB->List Nat,(∀t:TB,t.Nil->f t=[])->(List.range 256).flatMap (fun i=>f (Z.tb i))=[]:=fun f hf=>by
  rw [J6C];intro i hi;exact hf _ (hnil i (J2N.1 hi))
 have h7:Z.S.P.usedOf 7=[]:=by
  have:=ok.tpi.lvs;rw [show Q2S Z.tb=[] from lst TB.lvs fun t ht=>ht.lists.1] at this;exact J6M.1 this
 have h6:Z.S.P.usedOf 6=[]:=by
  have:=ok.tpi.nds;rw [show Q3g Z.tb=[] from lst TB.nds fun t ht=>ht.lists.2.1] at this;exact J6M.1 this
 have hxc:∀id,Z.S.xc id=0:=fun id=>by
  have h1:=(ok.core.inv.que.xc id).1;have h2:=Z1f Z.S.l Z.tb id;rw [ok.tpi.xc id] at h1 ⊢;rw [show Q2S Z.tb=[] from lst TB.lvs fun t ht=>ht.lists.1,show Q3g Z.tb=[] from lst TB.nds fun t ht=>ht.lists.2.1] at h2;simp at h2;omega
 refine⟨Z.S.now,Z.S,fr,rfl,ok.core,rfl,hlv,fun t ht=>?_,hxc,h6,h7,b.top,b.root,?_⟩
 ·have:=(ok.core.due t ht).2;rw [b.per] at this;exact this
 ·refine st.drop ?_;unfold SP.hl;exact ((J3m _ _).trans (J3o _ _)).append (J4C _)
theorem Z7s {c:Nat} {D:CO} {t0 i:Nat} {w wr:World} (h:BtZ c D t0 i w wr) (hi:i<2):Calls prog 56 #[.pointer (some ⟨c,0,none⟩)] wr fun r w'=>(∃a:Value,r=.returned a)/\BtZ c D t0 (i+1) w w':=by
 obtain⟨S,fr,rfl,ok,hnow,hlv,hts,hxc,h6,h7,htop,hroot,st⟩:=h;refine (Q9T st.sep.left ok (by omega)).mono ?_;rintro r w' ⟨rv,S',fr',v,rfl,_,_,t,ok',st2,_⟩;have wn:Went S S':=t.went;refine⟨⟨v,rfl⟩,S',fr',wn.c,ok',?_,fun x p hp=>?_,fun x hx=>?_,fun id=>?_,?_,?_,wn.same.top.trans htop,?_,st.trans (Step.beside st.sep st2)⟩
 ·rw [t.now];show S.now+1=_;omega
 ·rw [t.live x] at hp;exact hlv x p hp
 ·rw [t.ts] at hx;exact hts x ((List.dropWhile_suffix _).subset hx)
 ·rw [t.xc];exact hxc id
 ·have:=t.high 6 (by omega);rw [show (S.setG (S.now+1) rv (dueT S)).P.usedOf 6=[] from h6] at this;exact List.perm_nil.1 this
 ·have:=t.high 7 (by omega);rw [show (S.setG (S.now+1) rv (dueT S)).P.usedOf 7=[] from h7] at this;exact List.perm_nil.1 this
 ·rw [t.live 0];exact hroot
theorem Z7t {a x:Nat} {p:Pl} (h:pget (newL a) 1 x=some p):x=0:=by
 obtain⟨h1,h2,h3⟩:=pget_some.1 h;by_cases h0:x%256=0
 ·rw [h0] at h1 h2;have:p=⟨1,a,0,1,0,0⟩:=by
   unfold newL at h1;rw [List.getElem?_cons_zero] at h1;exact (J3u h1).symm
  subst this;simp only [nm] at h2;omega
 ·exfalso;have:p=noPl 0:=by
   unfold newL at h1;obtain⟨m,hm⟩:=Nat.exists_eq_succ_of_ne_zero h0;rw [hm,J5K] at h1;exact J2F (J4L h1)
  subst this;cases h3
theorem J1r {c:Nat} {D:CO} {t0:Nat} {w wr:World} (hD:Q6F D 6 65536 2) (h:BtZ c D t0 2 w wr):∃S:CO,S.c=c/\BeS S D/\Step [] (S.hl++D.hl) w wr:=by
 obtain⟨S,fr,rfl,ok,hnow,hlv,hts,hxc,h6,h7,htop,hroot,st⟩:=h;have hts0:S.ts=[]:=by
  cases e:S.ts with
  | nil=>rfl
  | cons t r =>
   have h1:=(ok.due t (by rw [e];exact List.mem_cons_self)).1;have h2:=hts t (by rw [e];exact List.mem_cons_self);omega
 obtain⟨r,a,rfl⟩:=ok.alone hlv hts0 hxc;refine⟨S,rfl,⟨⟨_,_,_,ok⟩,hD.ok,⟨r,a⟩,htop,hD.top,?_,hD.ps⟩,st⟩;have hr:r=⟨1,64,0,1,0,0⟩:=by
  have h1:=(pget_some.1 hroot).1;rw [show 0%256=0 from rfl,a.root] at h1;exact J3u h1
 have hDl:∀x p,pget D.l 1 x=some p->x=0:=fun x p hp=>by rw [hD.l] at hp;exact Z7t hp
 obtain⟨r0,a0,_⟩:=hD.ok.alone hDl hD.ts (fun id=>by rw [hD.xc]);have hr0:r0=⟨1,64,0,1,0,0⟩:=by
  have:=a0.root;rw [hD.l] at this;exact (J3u this).symm
 have:=Z5s hD.ok.inv.mem.pool ok.inv.mem.pool (fun k=>by
  by_cases hk0:k=0
  ·subst hk0;exact J5R _
  ·by_cases hk6:k=6
   ·subst hk6;rw [h6,hD.high 6 (by omega)]
   ·by_cases hk7:k=7
    ·subst hk7;rw [h7,hD.high 7 (by omega)]
    ·by_cases hk8:k<=5
     ·rw [a.used k (by omega) hk8,a0.used k (by omega) hk8,hr,hr0]
     ·have hz:Q0c k=0:=by unfold Q0c;rw [J4m (by simp;omega)];rfl
      rw [Q1q ok.inv.mem.pool hz,Q1q hD.ok.inv.mem.pool hz]) (J5R _)
 rw [hD.ps] at this;exact this
theorem Z7u {m:Nat}:(64:Int)+(m:Int).tmod 65473=((64+m%65473:Nat):Int)/\(64:Int)+(m:Int)%65473=((64+m%65473:Nat):Int)/\64<=64+m%65473/\64+m%65473<=65536:=by
 refine⟨?_,by omega,by omega,by omega⟩;rw [J4o (by omega)];omega
section
variable {Z:SP} {fr:List Nat} {N K:Nat} {M:Int}
end
theorem Q8r {w:World} (henv:Env w) (m:Nat) (hm:m<65536) (a0:Option Addr) (len cap:Nat) (A:Nat->A17) (hA:IsA17 w a0 len A) :
  Calls prog 11 #[.int .u16 m,.slice a0 len cap] w (Told w (.bool true)):=by
 have ka:=Z1l henv;obtain⟨hmol,hmol2,hlm1,hlm2⟩:=Z7u (m:=m);generalize (64+m%65473:Nat)=lm at *
 have HFew:Hid (∀W,Below w.heap.size w W->Calls prog 26 #[.slice a0 len cap] W fun r w'=>r=.returned (.bool (fewV A len))/\W=w'):=fun W hb=>J1m W a0 len cap A (hA.below hb)
 have HBeg:Hid (fewV A len=true->∀W,Below w.heap.size w W->Calls prog 27 #[.int .i64 lm,.slice a0 len cap] W fun r w'=>∃s,r=.returned (.pointer (some ⟨s,0,none⟩))/\AtB s 61 60 15360 W w'):=fun hf W hb=>by
  unfold fewV at hf;have hf:=of_decide_eq_true hf;exact Z7m (henv.below hb) _ (by omega) (by omega) a0 len cap A hf.1 (hA.below hb) hf.2
 have HRefl:Hid (Below w.heap.size w w):=Below.refl _ _;have HMol:=Q0a hmol;have HMol2:=Q0a hmol2;clear hA henv hmol hmol2 hlm1 hlm2;have hm0:(0:Int)<=(m:Int):=by omega
 have hm1:(m:Int)<65536:=by omega
 go_enter func11,ntmps11;go_wp2_with fail;refine ka.mono ?_;rintro r w0 ⟨rfl,hb0⟩;have HB0:=Q0a hb0;have kf:=HFew.out w0 hb0;clear hb0 ka HFew;go_wp2_with fail;refine kf.mono ?_;rintro r w0' ⟨rfl,rfl⟩;clear kf;generalize fewV A len=fv at *
 cases fv with
 | false =>
  clear HBeg;go_wp2_with fail
  first|exact⟨rfl,HB0.out⟩|(go_ret;exact⟨rfl,HB0.out⟩)
 | true =>
  have kb:=HBeg.out rfl w0 HB0.out;clear HBeg;go_wp2_with fail
  first|rw [HMol2.out]|rw [HMol.out]
  refine kb.mono ?_;rintro r w1 ⟨s,rfl,hat⟩;have kn:=J2g hat;have HB1:Hid (Below w.heap.size w w1):=HB0.out.trans ((by obtain⟨Z,fr,_,_,_,st⟩:=hat;exact st.fresh:Below w0.heap.size w0 w1).mono HB0.out.size);clear hat kb;go_wp2_with fail;refine kn.mono ?_;rintro r w2 ⟨D,c,ln0,rfl,hD,hk⟩;have HD:=Q0a hD;have HK0:=Q0a hk;clear hD hk kn;go_wp2_with fail
  go_loopg [7] 300 (fun gk iv wr=>∃i:Nat,iv=.int .i64 i/\i+gk=300/\∃ln,BkL s c D i ln w0 wr)
  case atStart=>exact⟨0,rfl,by omega,ln0,HK0.out⟩
  case round =>
   obtain⟨i,rfl,hig,ln,hk⟩:=hrel;have HIG:=Q0a hig;have hi256:ln+i<=256:=by obtain⟨_,_,_,_,_,_,_,h,_⟩:=hk;exact h
   have ko:=Z7q hk;have kl:=Z7r hk;have hi300:(i:Int)<300:=by omega
   have hi0:(0:Int)<=(i:Int):=by omega
   have hd300:decide ((i:Int)<300)=true:=decide_eq_true hi300;clear hk hig HK0;go_wp2_with fail;refine ko.mono ?_;rintro r w' ⟨rfl,rfl⟩;go_wp2_with fail;refine kl.mono ?_;rintro r w3 ⟨a,cp,rfl,hk3,hl256,hkill⟩;have HK3:=Q0a hk3;have HKi:=Q0a hkill;have hln:(ln:Int)<=256:=by omega
   have hln0:(0:Int)<=(ln:Int):=by omega
   clear hk3 hkill kl ko;by_cases h1:1<ln
   ·have hd1:decide (1<(ln:Int))=true:=decide_eq_true (by omega);have h1i:(1:Int)<(ln:Int):=by omega
    have ko:=Z7q HK3.out;have kl:=Z7r HK3.out;clear HKi;go_wp2_with fail;refine ko.mono ?_;rintro r w' ⟨rfl,rfl⟩;go_wp2_with fail;refine kl.mono ?_;rintro r w4 ⟨a2,cp2,rfl,hk4,-,hkill⟩;obtain⟨x,g,rfl,hcx,hkl⟩:=hkill h1;have HKl:=Q0a hkl;clear hk4 hkill kl ko hkl HK3;go_wp2_with fail;refine HKl.out.mono ?_;rintro r w5 ⟨av,ln',rfl,hk5⟩;have HK5:=Q0a hk5;clear hk5 HKl hcx;go_wp2_with fail;go_roundg (300-(i+1))
    case measure=>have:=HIG.out;omega
    case rel=>exact⟨i+1,by go_num,by have:=HIG.out;omega,ln',HK5.out⟩
   ·have hd1:decide (1<(ln:Int))=false:=decide_eq_false (by omega);have ko:=Z7q HK3.out;obtain⟨t0,hbt⟩:=Z9F HK3.out (by omega);have HBt:=Q0a hbt;clear HKi HK3 hbt hi256 hln hln0 hi300 hi0 h1 hl256;go_wp2_with fail;refine ko.mono ?_;rintro r w' ⟨rfl,rfl⟩;have kt:=Z7s HBt.out (by omega);clear ko;go_wp2_with fail;refine kt.mono ?_;rintro r w4 ⟨⟨v4,rfl⟩,hbt⟩;have kt2:=Z7s hbt (by omega);clear kt hbt HBt;go_wp2_with fail;refine kt2.mono ?_;rintro r w5 ⟨⟨v5,rfl⟩,hbt⟩;obtain⟨S2,hc2,be,st⟩:=J1r HD.out hbt;have hlv:=J1p be st;rw [hc2] at hlv;have HLv:=Q0a hlv;have HBe:=Q0a be;have HC2:=Q0a hc2;clear kt2 hbt hlv be st hc2 HD HIG
    go_wp2_with fail;refine HLv.out.mono ?_;rintro r w8 ⟨a1,k1,rfl,hz⟩;have HZb:=Q0a hz;clear hz HLv;go_wp2_with fail;refine HZb.out.mono ?_;rintro r w9 ⟨a2,k2,rfl,hz⟩;obtain⟨pp,qt,m1,q1,u1⟩:=J2f HBe.out hz;rw [HC2.out] at m1;have HM1:=Q0a m1;have HQ1:=Q0a q1;have HU1:=Q0a u1;clear hz m1 q1 u1 HZb;go_wp2_with fail;refine HM1.out.mono ?_;rintro r w' ⟨rfl,rfl⟩;clear HM1;go_wp2_with fail;refine HQ1.out.mono ?_;rintro r w' ⟨rfl,rfl⟩;clear HQ1;go_wp2_with fail;refine HU1.out.mono ?_;rintro r w10 ⟨rfl,hz⟩;obtain⟨p3,bb,m3,b3,f3⟩:=J1o HBe.out hz;rw [HC2.out] at m3;have HM3:=Q0a m3;have HB3:=Q0a b3;have HF3:=Q0a f3
    clear hz m3 b3 f3 HU1;go_wp2_with fail;refine HM3.out.mono ?_;rintro r w' ⟨rfl,rfl⟩;clear HM3;go_wp2_with fail;refine HB3.out.mono ?_;rintro r w' ⟨rfl,rfl⟩;clear HB3;go_wp2_with fail;refine HF3.out.mono ?_;rintro r w12 ⟨a4,l4,k4,p4,d4,rfl,m4,b4,f4⟩;have HM4:=Q0a m4;have HB4:=Q0a b4;have HF4:=Q0a f4;clear m4 b4 f4 HF3;go_wp2_with fail;refine HM4.out.mono ?_;rintro r w' ⟨rfl,rfl⟩;clear HM4;go_wp2_with fail;refine HB4.out.mono ?_;rintro r w' ⟨rfl,rfl⟩;clear HB4;go_wp2_with fail;refine HF4.out.mono ?_;rintro r w13 ⟨a5,k5,rfl,sm⟩;have HSm:=Q0a sm;clear sm HF4;go_wp2_with fail;refine HSm.out.mono ?_
    rintro r w14 ⟨rfl,hbz⟩;have HBz:Hid (Told w (.bool true) (.returned (.bool true)) w14):=⟨rfl,HB0.out.trans (hbz.mono HB0.out.size)⟩
    clear hbz HSm;go_wp2_with fail
    first|exact HBz.out|(go_ret;exact HBz.out)
def Z7v:List (String×DataW Unit):=[("math/bits.deBruijn32tab", Rows.laid_math_bits_deBruijn32tab),("math/bits.deBruijn64tab", Rows.laid_math_bits_deBruijn64tab),("quartermaster/pool.costs", Rows.laid_quartermaster_pool_costs)]
def J2t:List Int:=[0,1,28,2,29,14,24,3,30,22,20,15,25,17,4,8,31,27,13,23,21,19,16,7,26,12,18,6,11,5,10,9]
theorem g32:prog.globalNamed "math/bits.deBruijn32tab" = some 2:=by kernel_rfl
theorem t32:(prog.globals[2]?).map (·.type)=some 380:=by kernel_rfl
theorem g64:prog.globalNamed "math/bits.deBruijn64tab" = some 1:=by kernel_rfl
theorem J2h:prog.globalNamed "quartermaster/pool.costs" = some 0:=by kernel_rfl
theorem t64:(prog.globals[1]?).map (·.type)=some 356:=by kernel_rfl
theorem J2u:(prog.globals[0]?).map (·.type)=some 258:=by kernel_rfl
theorem Z1r {W:World} (h:laidMetH prog Z7v W):Env W:=by
 rw [MakeChecks.laidMetH_plain _ _ _ (by kernel_rfl)] at h;have h1:laidMet prog (("math/bits.deBruijn32tab", Lib.tabData .u8 J2t)::[("math/bits.deBruijn64tab", Rows.laid_math_bits_deBruijn64tab),("quartermaster/pool.costs", Rows.laid_quartermaster_pool_costs)]) W:=h
 have hA:=Lib.tabIs_of_head g32 t32 underlying380 underlying5 (by kernel_rfl) (by kernel_rfl) h1;have h2:laidMet prog (("math/bits.deBruijn64tab", Lib.tabData .u8 (dbt.map fun (n:Nat)=>(n:Int)))::[("quartermaster/pool.costs", Rows.laid_quartermaster_pool_costs)]) W:=laidMet.tail h1
 have h3:laidMet prog (("quartermaster/pool.costs", Lib.tabData .i64 Z4s)::[]) W:=laidMet.tail h2
 have hB:=Lib.tabIs_of_head g64 t64 underlying356 underlying5 (by kernel_rfl) (by kernel_rfl) h2;have hC:=Lib.tabIs_of_head J2h J2u underlying258 underlying3 (by kernel_rfl) (by kernel_rfl) h3;have cB:TabB W:=by
  intro j v hv;have hj:=(J2O.1 hv).1;have:=hB.cell g64 j (by simpa using hj);rw [this];congr 2;simp [List.getD,hv]
 have cC:TabC W:=by
  intro j v hv;have hj:=(J2O.1 hv).1;have:=hC.cell J2h j (by simpa using hj);rw [this];congr 2;simp [List.getD,hv]
 refine⟨?_,cB,cC⟩;have c0:=World.block_lt_of_cell? W ⟨1,0,none⟩ (cB 0 0 rfl);have c1:=World.block_lt_of_cell? W ⟨0,0,none⟩ (cC 0 0 rfl);have c2:=World.block_lt_of_cell? W ⟨2,0,none⟩ (hA.cell g32 0 (by decide));have c0':1<W.heap.size:=c0;have c1':0<W.heap.size:=c1;have c2':2<W.heap.size:=c2;unfold GB;omega
end Go.Proofs.YtlakjlmaboioiaaGreatDoor
