/- PoolFails returns true at every input. No condition. Part of its proof. -/
import Derived.Test.YtfidemmgofcnmaaGreatDoorPf02
import Derived.Deep.QuietTactic
import Derived.BigQuiet
import Derived.Laws.CopyRow
import Derived.Laws.IdiomCopy
import Derived.Lib.Overlaps
import Derived.Lib.AppendZerosOnto
import Derived.Shelf.Spec.SlicesInsert
set_option maxHeartbeats 4000000
set_option maxRecDepth 100000
set_option linter.unusedVariables false
namespace Go.Proofs.YtfidemmgofcnmaaGreatDoor
open Go.RowKit Go.Proofs.Tryz
theorem Q1o{w w':World}{B:Nat}(h:Below B w w')(n:Nat):Below B w (w'.drewN n):=⟨h.os,h.tape,h.output,h.size,h.block⟩
theorem Q5D{w:World}{m:BM}(h:Sep w m.hl)(i:Nat)(hn:m.bits.length<=1048576):Calls prog 190 #[.pointer (some ⟨m.b,0,none⟩),.int .i64 i] w fun r w'=>r=.returned (.bool (m.bits[i]?.getD false))/\w=w':=by
 by_cases hi:i<m.bits.length
 ·exact Q2F h i hi hn
 ·have:=Q5A h i (.inr (by omega));rw[Z1r (by omega)];exact this
def Q1G(c:CA)(a:Nat):Option (Nat×Nat):=
 match c.pg[Q0f c.pg (a/1024)]? with
 | none=>none
 | some x=>if x.2=a/1024/\64<=a%1024/\(a%1024-64)%c.size=0/\x.1.bits[(a%1024-64)/c.size]?.getD false=true then some (Q0f c.pg (a/1024),(a%1024-64)/c.size) else none
def Q1z:Option (Nat×Nat)->Value
 | none=>.tuple #[.int .i64 0,.int .i64 0,.bool false]
 | some (k,i)=>.tuple #[.int .i64 k,.int .i64 i,.bool true]
theorem Q7g{w:World}(c:CA)(a:Int)(ha:a<0) :
  Calls prog 143 #[.pointer (some ⟨c.c,0,none⟩),.int .i64 a] w fun r w'=>r=.returned (Q1z none)/\w=w':=by
 unfold Q1z;go_enter func143,ntmps143
 go_wp2
 go_ret3
 exact⟨rfl,rfl⟩
theorem Q8B{w:World}(cc s a q k:Nat)(hp:Bool)(FD:Ending->World->Prop)(n:Int)(Cu:16<=s)(By:s<=512)(ha:a<9223372036854775808)(CS:(a:Int)/1024*1024=(q:Int))(ER:(a:Int)%1024-64=n)(hn:n<960)
  (k1:Calls prog 131 #[.pointer (some ⟨cc,0,none⟩),.int .i64 q] w FD) (HQ:Hid (∀r w',FD r w'->r=.returned (.tuple #[.int .i64 k,.bool hp])/\Below w.heap.size w w'))
  (HC:Hid (∀w',Below w.heap.size w w'->w'.cell? ⟨cc,1,none⟩=some (.int .i64 s)))
  (Ar:hp=false∨n<0∨(0<=n/\n%s≠0)) :
  Calls prog 143 #[.pointer (some ⟨cc,0,none⟩),.int .i64 a] w (Told w (Q1z none)):=by
 have HT:Hid (∀n w',Below w.heap.size w w'->Told w (Q1z none) (.returned (.tuple #[.int .i64 0,.int .i64 0,.bool false])) (w'.drewN n)):=fun n w' hb=>⟨rfl,Q1o hb n⟩
 by_cases h1:hp=false
 ·subst h1;clear Ar;go_enter func143,ntmps143;go_wp2_with fail;refine k1.mono ?_;rintro r w1 hf;obtain⟨rfl,hb⟩:=HQ.out _ _ hf;have c1:=HC.out _ hb;have Co:=Q0a (fun n=>HT.out n _ hb);clear hf hb;go_wp2_with fail
  go_quiet (fail)
  go_wp2_with fail
  go_ret3
  exact Co.out _
 ·have Fj:hp=true:=by cases hp <;> simp_all
  subst Fj;by_cases h2:n<0
  ·have h3:decide (n<0)=true:=by simpa using h2
   clear Ar h1;go_enter func143,ntmps143;go_wp2_with fail;refine k1.mono ?_;rintro r w1 hf;obtain⟨rfl,hb⟩:=HQ.out _ _ hf;have c1:=HC.out _ hb;have Co:=Q0a (fun n=>HT.out n _ hb);clear hf hb;go_wp2_with fail
   go_quiet (fail)
   go_wp2_with fail
   go_ret3
   exact Co.out _
  ·have h3:decide (n<0)=false:=by simpa using h2
   have h4:0<=n/\n%s≠0:=by rcases Ar with h|h|h;exact absurd h h1;exact absurd h h2;exact h
   have h5:(n.tmod (s:Int) != 0)=true:=by rw[Z1t h4.1];simpa using h4.2
   have h6:(n.tmod (s:Int)==0)=false:=by rw[Z1t h4.1];simpa using h4.2
   have h7:((s:Int)==0)=false:=by simp;omega
   have h8:(s:Int)≠0:=by omega
   obtain⟨m,hm⟩:∃m,n.tmod (s:Int)=m:=⟨_,rfl⟩
   rw[hm] at h5 h6;clear Ar h1 h4;go_enter func143,ntmps143;go_wp2_with fail;refine k1.mono ?_;rintro r w1 hf;obtain⟨rfl,hb⟩:=HQ.out _ _ hf;have c1:=HC.out _ hb;have Co:=Q0a (fun n=>HT.out n _ hb);clear hf hb;go_wp2_with fail
   go_quiet (fail)
   go_wp2_with fail
   go_ret3
   exact Co.out _
theorem Q7h{w:World}(cc s a q k rb np Aa b:Nat)(FD:Ending->World->Prop)(n i:Nat)(v:Bool)(Cu:16<=s)(By:s<=512)(ha:a<9223372036854775808)(CS:(a:Int)/1024*1024=(q:Int))(ER:(a:Int)%1024-64=n)(hn:n<960)(hm:n%s=0)(hi:n/s=i)(hk:k<np)(hnp:np<=1048576)
  (k1:Calls prog 131 #[.pointer (some ⟨cc,0,none⟩),.int .i64 q] w FD) (HQ:Hid (∀r w',FD r w'->r=.returned (.tuple #[.int .i64 k,.bool true])/\Below w.heap.size w w'))
  (HC:Hid (∀w',Below w.heap.size w w'->w'.cell? ⟨cc,1,none⟩=some (.int .i64 s)/\w'.cell? ⟨cc,2,none⟩=some (.slice (some ⟨rb,0,none⟩) np Aa)/\w'.cell? ⟨rb,k*2,none⟩=some (.pointer (some ⟨b,0,none⟩)) /\
   ∀n,Calls prog 190 #[.pointer (some ⟨b,0,none⟩),.int .i64 i] (w'.drewN n) fun r w''=>r=.returned (.bool v)/\∃m,w''=w'.drewN m)) :
  Calls prog 143 #[.pointer (some ⟨cc,0,none⟩),.int .i64 a] w (Told w (Q1z (if v then some (k,i) else none))):=by
 have Dq:(n:Int).tmod (s:Int)=0:=by rw[Z1t (by omega)];omega
 have Ds:(n:Int).tdiv (s:Int)=(i:Int):=by rw[Z1s (by omega),<- hi];exact(Z1v n s).symm
 have h7:((s:Int)==0)=false:=by simp;omega
 have h8:(s:Int)≠0:=by omega
 have Br:(0:Int)<=k:=by omega
 have Di:(k:Int)<np:=by omega
 have h3:decide ((n:Int)<0)=false:=by simp
 have h9:(i:Int)<1024:=by have:=Z1j n s;omega
 have JJ:(0:Int)<=i:=by omega
 clear hm hi hn;obtain⟨z,hz⟩:∃z:Int,z=n:=⟨_,rfl⟩
 rw[<- hz] at Dq Ds h3 ER;clear hz;cases v with
 | false =>
  have HT:Hid (∀n w',Below w.heap.size w w'->Told w (Q1z (if false=true then some (k,i) else none)) (.returned (.tuple #[.int .i64 0,.int .i64 0,.bool false])) (w'.drewN n)):=fun n w' hb=>⟨rfl,Q1o hb n⟩
  go_enter func143,ntmps143;go_wp2_with fail;refine k1.mono ?_;rintro r w1 hf;obtain⟨rfl,hb⟩:=HQ.out _ _ hf;obtain⟨c1,c2,c3,AH⟩:=HC.out _ hb;have Co:=Q0a (fun n=>HT.out n _ hb);have HG:=Q0a AH;clear hf hb AH;go_wp2_with fail
  go_quiet ((go_at_call 190;exact HG.out _))
  go_wp2_with fail
  go_ret3
  exact Co.out _
 | true =>
  have HT:Hid (∀n w',Below w.heap.size w w'->Told w (Q1z (if true=true then some (k,i) else none)) (.returned (.tuple #[.int .i64 k,.int .i64 i,.bool true])) (w'.drewN n)):=fun n w' hb=>⟨rfl,Q1o hb n⟩
  go_enter func143,ntmps143;go_wp2_with fail;refine k1.mono ?_;rintro r w1 hf;obtain⟨rfl,hb⟩:=HQ.out _ _ hf;obtain⟨c1,c2,c3,AH⟩:=HC.out _ hb;have Co:=Q0a (fun n=>HT.out n _ hb);have HG:=Q0a AH;clear hf hb AH;go_wp2_with fail
  go_quiet ((go_at_call 190;exact HG.out _))
  go_wp2_with fail
  go_quiet (fail)
  go_wp2_with fail
  go_ret3
  exact Co.out _
theorem Q2H{w:World}{c:CA}(h:Sep w c.hl)(ok:c.Ok)(a:Nat)(ha:a<9223372036854775808) :
  Calls prog 143 #[.pointer (some ⟨c.c,0,none⟩),.int .i64 a] w (Told w (Q1z (Q1G c a))):=by
 have k1:=Q4o h ok (a/1024);have s0:=ok.s0;have s1:=ok.s1;have Bp:=ok.len;have CS:(a:Int)/1024*1024=((1024*(a/1024):Nat):Int):=by omega
 have AT:c.c<w.heap.size:=h.lt (by simp[CA.hl]);have In:=(CA.sepC h).cell 1 _ rfl;have IX:=(CA.sepC h).cell 2 _ rfl;have H8:Hid (∀w',Below w.heap.size w w'->w'.cell? ⟨c.c,1,none⟩=some (.int .i64 c.size)):=fun w' hb=>(hb.cell (p:=⟨c.c,1,none⟩) AT).trans In
 have HQ:Hid (∀r w',Q3E c.pg (a/1024) w r w'->r=.returned (.tuple #[.int .i64 (Q0f c.pg (a/1024)),.bool (Q1h c.pg (a/1024))])/\Below w.heap.size w w'):=fun r w' hf=>hf
 have no:∀hp,Q1h c.pg (a/1024)=hp->(hp=false∨(a:Int)%1024-64<0∨(0<=(a:Int)%1024-64/\((a:Int)%1024-64)%(c.size:Int)≠0))->Calls prog 143 #[.pointer (some ⟨c.c,0,none⟩),.int .i64 a] w (Told w (Q1z none)):=fun hp _ Ar =>
  Q8B c.c c.size a (1024*(a/1024)) (Q0f c.pg (a/1024)) (Q1h c.pg (a/1024)) _ _ s0 s1 ha CS rfl (by omega) k1 HQ H8 (by subst hp;exact Ar)
 unfold Q1G;cases hx:c.pg[Q0f c.pg (a/1024)]? with
 | none=>exact no false (by unfold Q1h;rw[hx]) (.inl rfl)
 | some x =>
  have hh:Q1h c.pg (a/1024)=decide (x.2=a/1024):=by unfold Q1h;rw[hx]
  by_cases h1:x.2=a/1024
  ·have ht:Q1h c.pg (a/1024)=true:=by rw[hh];simpa using h1
   by_cases h2:64<=a%1024
   ·have hz:(a:Int)%1024-64=((a%1024-64:Nat):Int):=by omega
    by_cases h3:(a%1024-64)%c.size=0
    ·have hk:=(Z0k.1 hx).1;obtain⟨rb,Aa,Am⟩:∃rb Aa,c.rv=some (rb,Aa):=by
      cases e:c.rv with
      | none=>have:=ok.rv;rw[e] at this;have:c.pg.length=0:=this;omega
      | some p=>exact⟨p.1,p.2,rfl⟩
     have A3:=CA.sepR h;rw[Am] at A3;have EE:rb<w.heap.size:=A3.lt (by simp[rowH]);have I7:=CA.sepB h _ x hx;have C0:=ok.many x (Z1O hx);have Cp:x.1.bits.length<=1048576:=by rw[C0];have:=Z1j 960 c.size;omega
     obtain⟨e1,_⟩:=Q0y _ _ _ hx;have:=Q7h c.c c.size a (1024*(a/1024)) (Q0f c.pg (a/1024)) rb c.pg.length Aa x.1.b _ (a%1024-64) ((a%1024-64)/c.size) (x.1.bits[(a%1024-64)/c.size]?.getD false) s0 s1 ha CS hz (by omega) h3 rfl hk Bp k1 (fun r w' hf=>by rw[<- ht];exact hf) (fun w' hb=>⟨H8 w' hb,by
      have:=(hb.cell (p:=⟨c.c,2,none⟩) AT).trans IX;rw[Am] at this;exact this,(hb.cell (p:=⟨rb,_,none⟩) EE).trans (Q0r A3 _ _ e1),fun n=>(Q5D ((I7.grown hb).sep.drewN n) _ Cp).mono fun r w'' ⟨e,e2⟩=>⟨e,n,e2.symm⟩⟩)
     refine this.mono fun r w' hr=>?_
     simp only[h1,h2,h3,true_and];exact hr
    ·have:=no true ht (.inr (.inr ⟨by omega,by rw[hz];intro e;exact h3 (by exact_mod_cast e)⟩))
     simpa[h3] using this
   ·have:=no true ht (.inr (.inl (by omega)))
    simpa[h2] using this
  ·have:=no false (by rw[hh];simpa using h1) (.inl rfl)
   simpa[h1] using this
theorem Q8C{w:World}{c:CA}(h:Sep w c.hl)(ok:c.Ok)(a:Nat)(ha:a<9223372036854775808) :
  Calls prog 122 #[.pointer (some ⟨c.c,0,none⟩),.int .i64 a] w (Told w (.bool (Q1G c a).isSome)):=by
 have k1:=Q2H h ok a ha;clear h ok;generalize Q1G c a=o at *
 generalize c.c=cc at *
 have HQ:Hid (∀r w',Told w (Q1z o) r w'->∃i j:Int,r=.returned (.tuple #[.int .i64 i,.int .i64 j,.bool o.isSome])/\Told w (.bool o.isSome) (.returned (.bool o.isSome)) w'):=fun r w' ⟨e,hb⟩=>by
  cases o with
  | none=>exact⟨0,0,e,rfl,hb⟩
  | some p=>exact⟨p.1,p.2,e,rfl,hb⟩
 generalize o.isSome=v at *
 go_enter func122,ntmps122;go_wp2_with fail;refine k1.mono ?_;rintro r w1 hf;obtain⟨i,j,rfl,Ct⟩:=HQ.out _ _ hf;have DJ:=Q0a Ct;clear Ct hf;go_wp2_with fail;go_ret;exact DJ.out
theorem Q1f{P:Program}(w:World)(dT sT ty elem:TypeId)(size g o dLen dCap:Nat)(a:Addr)(sLen sCap m:Nat)(Ac:Array Value)(t:TypeId)(cs:List Value)
  (hu:P.underlying dT=some (.slice elem)) (hs:(P.info? elem).map (·.size)=some size)
  (hg:w.heap[g]?=some (.cells Ac t (0,0))) (hm:Nat.min sLen dLen=m) (hn:cs.length=m*size)
  (Cv:∀j v,cs[j]?=some v->w.cell? (a.add j)=some v) (BO:o+cs.length<=Ac.size) (h1:∀v∈cs,v.oneCell'=true) :
  (Builtin.copy_ #[dT,sT] ty #[.slice (some ⟨g,o,none⟩) dLen dCap,.slice (some a) sLen sCap]).run P w =
   .ok (.int .i64 m) (w.setRow g (Ac.toList.take o++cs++Ac.toList.drop (o+cs.length)).toArray):=by
 have hl:=run_loadCells_list (P:=P) w a cs Cv;have Ah:=run_storeCells_at P g o t cs 0 Ac w hg (by simpa using BO) h1;rw[hn] at hl;cases hq:P.info? elem with
 | none=>simp[hq] at hs
 | some i =>
  have hi:i.size=size:=by simpa[hq] using hs
  simp[Builtin.copy_,run_underlying hu,Builtin.lenOf,Builtin.firstCells,sizeOf,typeInfo,hq,hi,hm,hl,Ah,goInt]
theorem Q5E(Ac:List Value)(xs news:List Value)(p:Nat)(hx:Ac.take xs.length=xs)(hp:p<=xs.length)(hl:xs.length+news.length<=Ac.length) :
  let c1:=Ac.take (p+news.length)++xs.drop p++Ac.drop (p+news.length+(xs.drop p).length)
  let c2:=c1.take p++news++c1.drop (p+news.length)
  c1.length=Ac.length/\c2.length=Ac.length/\c2.take (xs.length+news.length)=xs.take p++news++xs.drop p:=by
 have e0:(xs.drop p).length=xs.length-p:=Z1S;have e1:(Ac.take (p+news.length)++xs.drop p++Ac.drop (p+news.length+(xs.drop p).length)).length=Ac.length:=by
  simp only[Z0s,Z1T,Z1S];omega
 refine⟨e1,?_,?_⟩
 ·simp only[Z0s,Z1T,Z1S];omega
 ·have ht:(Ac.take (p+news.length)++xs.drop p++Ac.drop (p+news.length+(xs.drop p).length)).take p=xs.take p:=by
   rw[Z0F,Z1U (by simp;omega),Z1V,show min p (p+news.length)=p by omega];rw[<- hx,Z1V,show min p xs.length=p by omega]
  have hd:(Ac.take (p+news.length)++xs.drop p++Ac.drop (p+news.length+(xs.drop p).length)).drop (p+news.length)=xs.drop p++Ac.drop (p+news.length+(xs.drop p).length):=by
   rw[Z0F,Z1W (by simp;omega),Z1X (by simp;omega),Z1K]
  show List.take (xs.length+news.length) _=_;rw[ht,hd,<- Z0F];have e2:(xs.take p++news++xs.drop p).length=xs.length+news.length:=by simp;omega
  rw[<- e2,Z1Y]
def InsP(T:TypeId)(n:Nat)(blk:Option Nat)(ys:List Value)(w:World)(r:Ending)(w':World):Prop:=
 ∃v',r=.returned v'/\w'.ownsRow 0 T 2 v' (n+1) ys/\w.grownBy w' blk/\(v'.ownBlock=blk∨v'.ownBlock=some w.heap.size)
theorem infopage:(prog.info? 236).map (fun i=>(i.zero,i.size,i.bytes))=some (some (.agg #[.pointer none,.int .i64 0]),2,16):=by kernel_rfl
theorem Q8D{w:World}{rv:RV}{n vb:Nat}{xs:List Value}{v0 v1:Value}(AS:w.ownsRow 0 236 2 (lvOf rv n) n xs)(AX:rvOk rv n)(hn:n<=1048576)(b0:w.cell? ⟨vb,0,none⟩=some v0)(b1:w.cell? ⟨vb,1,none⟩=some v1)(o0:v0.oneCell'=true)(o1:v1.oneCell'=true) :
  Calls prog 132 #[lvOf rv n,.int .i64 n,.slice (some ⟨vb,0,none⟩) 1 1] w (InsP 236 n (lvOf rv n).ownBlock (xs++[v0,v1]) w):=by
 obtain⟨i0,hi,AZ,AF,Bd⟩:=info_parts infopage;have CL:∀j u,[v0,v1][j]?=some u->w.cell? ((⟨vb,0,none⟩:Addr).add j)=some u:=by
  intro j u hj
  match j,hj with
  | 0,hj=>cases hj;exact b0
  | 1,hj=>cases hj;exact b1
 obtain⟨v',w',hr,q1,q2,q3,q4⟩:=run_append_own_at (P:=prog) w 0 231 231 236 i0 (.agg #[.pointer none,.int .i64 0]) 2 16 underlying231 hi AZ AF Bd rfl (by decide) (lvOf rv n) n xs AS ⟨vb,0,none⟩ 1 1 [v0,v1] rfl CL (by simp[o0,o1]) (by unfold maxLen;omega) (by omega) (Z1C _);have HR:Hid (InsP 236 n (lvOf rv n).ownBlock (xs++[v0,v1]) w (.returned v') w'):=⟨v',rfl,q1,q2,q4⟩
 clear hi AZ AF Bd AS q1 q2 q3 q4 CL;cases rv with
 | none =>
  have h0:n=0:=AX;subst h0;unfold lvOf at *
  go_enter func132,ntmps132;go_wp2_with (at_builtin;refine Lib.wpList_append_run _ rfl _ _ _ _ rfl _ _ rfl rfl _ _ hr ?_);go_ret;exact HR.out
 | some p =>
  obtain⟨g,Aa⟩:=p;have JY:n<=Aa:=AX.1;have Bu:Aa<=9223372036854775807:=by have:=AX.2;unfold maxLen at this;omega
  clear AX;unfold lvOf at *
  go_enter func132,ntmps132;go_wp2_with (at_builtin;refine Lib.wpList_append_run _ rfl _ _ _ _ rfl _ _ rfl rfl _ _ hr ?_)
  all_goals (go_ret;exact HR.out)
theorem Q5F{w:World}{g Aa n i vb:Nat}{xs:List Value}{Ac:Array Value}{v0 v1:Value}(hg:w.heap[g]?=some (.cells Ac 236 (0,0)))(AM:Ac.size=Aa*2)(A6:Ac.toList.take xs.length=xs)(hx:xs.length=n*2)(hi:i<n)(hn:n<=1048576)(hc:n+1<=Aa)(Bu:Aa<=maxLen)
  (hv:Cells w vb 236 [v0,v1]) (Dr:vb≠g) (ox:∀v∈xs,v.oneCell'=true) (o0:v0.oneCell'=true) (o1:v1.oneCell'=true) :
  Calls prog 132 #[.slice (some ⟨g,0,none⟩) n Aa,.int .i64 i,.slice (some ⟨vb,0,none⟩) 1 1] w (InsP 236 n (some g) (xs.take (i*2)++[v0,v1]++xs.drop (i*2)) w):=by
 have AB:(prog.info? 236).map (·.size)=some 2:=by
  obtain⟨i0,hi,AZ,AF,Bd⟩:=info_parts infopage;rw[hi];simp[AF]
 have AT:Ac.toList.length=Aa*2:=by simpa using AM
 have Ci:∀lb cb,(callFunc 193 #[.slice (some ⟨vb,0,none⟩) 1 1,.slice (some ⟨g,(i+1)*2,none⟩) lb cb]).run prog w=.ok (.value (.bool false)) w:=fun lb cb=>by
  rw[run_callFunc_extern func193 (by kernel_rfl) (by kernel_rfl) (by kernel_rfl) (e:=Extern.SlicesOverlaps.overlaps #[231,231] #[4]) (by kernel_rfl),
   Lib.run_overlaps_apart w 231 4 236 underlying231 2 sizeOf236 ⟨vb,0,none⟩ ⟨g,(i+1)*2,none⟩ 1 1 lb cb Dr 236 236 2 Ac.size (by simp[World.shape?,show w.heap[vb]?=_ from hv]) (by simp[World.shape?,hg]) (by omega) (hv.free 0) (hv.free 2)]
  rfl
 have BA:(xs.drop (i*2)).length=(n-i)*2:=by rw[Z1S,hx];omega
 have CO:=Q5E Ac.toList xs [v0,v1] (i*2) A6 (by omega) (by simp only[Z0t,Z1Z];omega);simp only[Z0t,Z1Z,Nat.reduceAdd] at CO;obtain⟨e1,e2,e3⟩:=CO;obtain⟨c1,B6⟩:∃c1:List Value,c1=Ac.toList.take (i*2+2)++xs.drop (i*2)++Ac.toList.drop (i*2+2+(xs.drop (i*2)).length):=⟨_,rfl⟩
 rw[<- B6] at e1 e2 e3;obtain⟨c2,Ay⟩:∃c2:List Value,c2=c1.take (i*2)++[v0,v1]++c1.drop (i*2+2):=⟨_,rfl⟩
 rw[<- Ay] at e2 e3;have Ai:∀j v,xs[j]?=some v->w.drew.cell? ⟨g,j,none⟩=some v:=fun j v hj=>by
  have:Ac.toList[j]?=some v:=by
   rw[<- A6] at hj;rw[Z1D] at hj;split at hj
   ·exact hj
   ·cases hj
  rw[Z2a] at this;show w.cell? _=_;simp[World.cell?,hg,this]
 have FG:∀ty dc sc,(Builtin.copy_ #[231,231] ty #[.slice (some ⟨g,(i+1)*2,none⟩) (n-i) dc,.slice (some ⟨g,i*2,none⟩) (n+1-i) sc]).run prog w.drew=.ok (.int .i64 ((n-i:Nat):Int)) (w.drew.setRow g c1.toArray):=fun ty dc sc=>by
  have:=Q1f (P:=prog) w.drew 231 231 ty 236 2 g ((i+1)*2) (n-i) dc ⟨g,i*2,none⟩ (n+1-i) sc (n-i) Ac 236 (xs.drop (i*2)) underlying231 AB hg (by simp only[Z2b];split <;> omega) BA
   (fun j v hj=>by rw[Addr.add_lit];exact Ai _ v (by rwa [Z2c] at hj)) (by rw[BA,AM];omega) (fun v hv=>ox v (Z2d hv))
  rw[show(i+1)*2=i*2+2 by omega] at this ⊢;rw[this,B6]
 have Bn:(w.drew.setRow g c1.toArray).heap[g]?=some (.cells c1.toArray 236 (0,0)):=setRow_heap w.drew g Ac _ _ _ hg;have Gg:∀ty dc,(Builtin.copy_ #[231,231] ty #[.slice (some ⟨g,i*2,none⟩) (n+1-i) dc,.slice (some ⟨vb,0,none⟩) 1 1]).run prog (w.drew.setRow g c1.toArray)=.ok (.int .i64 1) ((w.drew.setRow g c1.toArray).setRow g c2.toArray):=fun ty dc=>by
  have:=Q1f (P:=prog) (w.drew.setRow g c1.toArray) 231 231 ty 236 2 g (i*2) (n+1-i) dc ⟨vb,0,none⟩ 1 1 1 c1.toArray 236 [v0,v1] underlying231 AB Bn (by simp only[Z2b];split <;> omega) rfl
   (fun j v hj=>by
    rw[Addr.add_lit,Z2e];have hb:(w.drew.setRow g c1.toArray).heap[vb]?=w.heap[vb]?:=setRow_other w.drew g vb _ Dr;have:(w.drew.setRow g c1.toArray).cell? ⟨vb,j,none⟩=w.cell? ⟨vb,j,none⟩:=by simp[World.cell?,hb]
    rw[this];exact hv.cell j v hj) (by simp only[Z0t,Z1Z,Z2f];omega) (by simp[o0,o1])
  rw[this,Ay];rfl
 have HR:Hid (InsP 236 n (some g) (xs.take (i*2)++[v0,v1]++xs.drop (i*2)) w (.returned (.slice (some ⟨g,0,none⟩) (n+1) Aa)) ((w.drew.setRow g c1.toArray).setRow g c2.toArray)):=by
  have Bl:((w.drew.setRow g c1.toArray).setRow g c2.toArray).heap[g]?=some (.cells c2.toArray 236 (0,0)):=setRow_heap _ g c1.toArray _ _ _ Bn;refine⟨_,rfl,⟨by simp only[Z0s,Z1T,Z0t,Z1Z];omega,.inr ⟨g,Aa,c2.toArray,rfl,Z1C _,Bl,hc,Bu,by simp only[Z2f];omega,?_⟩⟩,⟨rfl,rfl,rfl,by simp,fun k _ hk=>?_⟩,.inl rfl⟩
  ·rw[<- e3];congr 1;simp only[hx]
   first|omega|simp
  ·have BK:k≠g:=fun e=>hk (by rw[e])
   rw[setRow_other _ g k _ BK,setRow_other _ g k _ BK];rfl
 clear Ai hg AM A6 Bn e1 e2 e3 AT ox BA hx B6 Ay hv;generalize xs.take (i*2)++[v0,v1]++xs.drop (i*2)=ys at *
 generalize c1.toArray=a1 at *
 generalize c2.toArray=a2 at *
 have Fu:Aa<=9223372036854775807:=by unfold maxLen at Bu;omega
 have Bd:¬((i:Int)=(n:Int)):=by omega
 have Gw:IntKind.i64.wrap ((i:Int)+1)=(i:Int)+1:=Go.IntWalk.i64_in _ (by omega);have Fb:IntKind.i64.wrap ((n:Int)+1)=(n:Int)+1:=Go.IntWalk.i64_in _ (by omega);have GZ:((i:Int)+1).toNat=i+1:=by omega
 have B9:(0:Int)<=(i:Int)+1:=by omega
 have Bg:i<=n:=by omega
 have D2:(i:Int)<=(n:Int)+1:=by omega
 have AG:¬(Aa=i+1):=by omega
 have D8:¬(Aa=i):=by omega
 have mixed:prog.follows .mixedOrders=true:=by kernel_rfl
 go_enter func132,ntmps132;go_wp2_with (simp only[Ci])
 go_region_law_o (refine step_copy_runI rfl _ _ 231 231 rfl _ _ (by simp[Act.eval,Act.put]) (by simp[Act.eval,Act.put]) (FG _ _ _) ?_)
 go_wp2_with (at_builtin;refine wpList_copy_runI _ rfl _ _ 231 231 rfl _ _ rfl rfl (Gg _ _) ?_);go_ret;exact HR.out
theorem Q4O(row:List Value)(xs news:List Value)(p:Nat)(hp:p<=xs.length)(hr:row.take p=xs.take p)(hl:xs.length+news.length<=row.length) :
  let c1:=row.take p++news++row.drop (p+news.length)
  let c2:=c1.take (p+news.length)++xs.drop p++c1.drop (p+news.length+(xs.drop p).length)
  c1.length=row.length/\c2.length=row.length/\c2.take (xs.length+news.length)=xs.take p++news++xs.drop p:=by
 have e0:(xs.drop p).length=xs.length-p:=Z1S;have e1:(row.take p++news++row.drop (p+news.length)).length=row.length:=by
  simp only[Z0s,Z1T,Z1S];omega
 refine⟨e1,?_,?_⟩
 ·simp only[Z0s,Z1T,Z1S];omega
 ·have ht:(row.take p++news++row.drop (p+news.length)).take (p+news.length)=xs.take p++news:=by
   have:(row.take p++news).length=p+news.length:=by simp;omega
   rw[<- this,Z1Y,hr]
  show List.take (xs.length+news.length) _=_;rw[ht];have e2:(xs.take p++news++xs.drop p).length=xs.length+news.length:=by simp;omega
  rw[<- e2,Z1Y]
theorem Q7i{w:World}{g n i vb:Nat}{xs:List Value}{Ac:Array Value}{v0 v1:Value}(hg:w.heap[g]?=some (.cells Ac 236 (0,0)))(A6:Ac.toList.take xs.length=xs)(hx:xs.length=n*2)(hi:i<n)(hn:n<=1048576)
  (hv:Cells w vb 236 [v0,v1]) (ox:∀v∈xs,v.oneCell'=true) (o0:v0.oneCell'=true) (o1:v1.oneCell'=true) :
  Calls prog 132 #[.slice (some ⟨g,0,none⟩) n n,.int .i64 i,.slice (some ⟨vb,0,none⟩) 1 1] w (InsP 236 n (some g) (xs.take (i*2)++[v0,v1]++xs.drop (i*2)) w):=by
 obtain⟨i0,AU,AZ,AF,DO⟩:=info_parts infopage;have AB:(prog.info? 236).map (·.size)=some 2:=by rw[AU];simp[AF]
 have Jh:g<w.heap.size:=lt_of_block hg;have I8:vb<w.heap.size:=lt_of_block hv;have Ai:∀j v,xs[j]?=some v->w.cell? ⟨g,j,none⟩=some v:=fun j v hj=>by
  have:Ac.toList[j]?=some v:=by
   rw[<- A6] at hj;rw[Z1D] at hj;split at hj
   ·exact hj
   ·cases hj
  rw[Z2a] at this;simp[World.cell?,hg,this]
 have Eg:(Builtin.firstCells i0.size i (.slice (some ⟨g,0,none⟩) i n)).run prog w.drew=.ok (xs.take (i*2)).toArray w.drew:=by
  rw[AF];exact run_firstCells_some w.drew 2 i ⟨g,0,none⟩ i n (xs.take (i*2)) (by rw[Z1T];omega) (fun j v hj=>by
   rw[Addr.add_lit,Z2e];rw[Z1D] at hj;split at hj
   ·exact Ai j v hj
   ·cases hj)
 have He:(n:Int)+1-(i:Int)=((n+1-i:Nat):Int):=by omega
 have Ce:i+(n+1-i)=n+1:=by omega
 obtain⟨G,hG⟩:∃G,G=grownCap w (n+1) n 236:=⟨_,rfl⟩
 have IO:n+1<=G:=by rw[hG];exact grownCap_ge w _ _ _
 have Gr:G<=maxLen:=by rw[hG];exact grownCap_le_maxLen w (n+1) n _ (by unfold maxLen;omega)
 obtain⟨ROW,Cw⟩:∃ROW:Array Value,ROW=(xs.take (i*2)).toArray++Builtin.zeroCells (Value.agg #[.pointer none,.int .i64 0]).cells (n+1-i)++Builtin.zeroCells (Value.agg #[.pointer none,.int .i64 0]).cells (G-(n+1)):=⟨_,rfl⟩
 have Jq:∀ty,(Builtin.append_ #[231,3] ty #[.slice (some ⟨g,0,none⟩) i n,.int .i64 ((n:Int)+1-(i:Int))]).run prog w =
   .ok (.slice (some ⟨w.heap.size,0,none⟩) (n+1) G) (w.drew.alloc (.cells ROW 236)):=fun ty=>by
  have h:=Lib.run_append_grow_zeros w 231 3 ty 236 i0 _ .i64 .i64 underlying231 underlying3 AU AZ (some ⟨g,0,none⟩) i n (xs.take (i*2)) Eg (n+1-i) (by omega) (by omega) (by omega) (by omega) (by rw[DO];omega) (by rw[DO,Ce];exact growslice_fits (by omega) (by omega));rw[Ce] at h;rw[He,Cw,hG];exact h
 have Gt:ROW.size=G*2:=by
  rw[Cw];simp only[Array.size_append,size_zeroCells,Z2f,Z1T,show(Value.agg #[.pointer none,.int .i64 0]).cells.size=2 from rfl];omega
 have Hp:ROW.toList.take (i*2)=xs.take (i*2):=by
  rw[Cw];simp only[Array.toList_append,Z0F];rw[Z1U (by simp;omega)];simp[List.take_take]
 have Jn:ROW.toList.length=G*2:=by simpa using Gt
 have CO:=Q4O ROW.toList xs [v0,v1] (i*2) (by omega) Hp (by simp only[Z0t,Z1Z];omega);simp only[Z0t,Z1Z,Nat.reduceAdd] at CO;obtain⟨e1,e2,e3⟩:=CO;obtain⟨c1,B6⟩:∃c1:List Value,c1=ROW.toList.take (i*2)++[v0,v1]++ROW.toList.drop (i*2+2):=⟨_,rfl⟩
 rw[<- B6] at e1 e2 e3;obtain⟨c2,Ay⟩:∃c2:List Value,c2=c1.take (i*2+2)++xs.drop (i*2)++c1.drop (i*2+2+(xs.drop (i*2)).length):=⟨_,rfl⟩
 rw[<- Ay] at e2 e3;have BA:(xs.drop (i*2)).length=(n-i)*2:=by rw[Z1S,hx];omega
 have hN:∀W:World,W.heap=(w.alloc (.cells ROW 236)).heap->W.heap[w.heap.size]?=some (.cells ROW 236 (0,0))/\(∀k,k<w.heap.size->W.heap[k]?=w.heap[k]?):=fun W hW=>by
  rw[hW];exact⟨heap_alloc_new w _,fun k hk=>heap_alloc_old w _ hk⟩
 have DP:∀W:World,W.heap=(w.alloc (.cells ROW 236)).heap->∀ty dc,(Builtin.copy_ #[231,231] ty #[.slice (some ⟨w.heap.size,i*2,none⟩) (n+1-i) dc,.slice (some ⟨vb,0,none⟩) 1 1]).run prog W=.ok (.int .i64 1) (W.setRow w.heap.size c1.toArray):=fun W hW ty dc=>by
  obtain⟨n1,n2⟩:=hN W hW;have:=Q1f (P:=prog) W 231 231 ty 236 2 w.heap.size (i*2) (n+1-i) dc ⟨vb,0,none⟩ 1 1 1 ROW 236 [v0,v1] underlying231 AB n1 (by simp only[Z2b];split <;> omega) rfl
   (fun j v hj=>by
    rw[Addr.add_lit,Z2e];have:W.cell? ⟨vb,j,none⟩=w.cell? ⟨vb,j,none⟩:=by simp[World.cell?,n2 vb I8]
    rw[this];exact hv.cell j v hj) (by simp only[Z0t,Z1Z];omega) (by simp[o0,o1])
  rw[this,B6];rfl
 have EQ:∀W:World,W.heap=((w.alloc (.cells ROW 236)).setRow w.heap.size c1.toArray).heap->W.heap[w.heap.size]?=some (.cells c1.toArray 236 (0,0))/\(∀k,k<w.heap.size->W.heap[k]?=w.heap[k]?):=fun W hW=>by
  obtain⟨n1,n2⟩:=hN _ rfl;rw[hW];exact⟨setRow_heap _ w.heap.size ROW _ _ _ n1,fun k hk=>(setRow_other _ _ k _ (by omega)).trans (n2 k hk)⟩
 have DZ:∀W:World,W.heap=((w.alloc (.cells ROW 236)).setRow w.heap.size c1.toArray).heap->∀ty dc sc,(Builtin.copy_ #[231,231] ty #[.slice (some ⟨w.heap.size,(i+1)*2,none⟩) (n-i) dc,.slice (some ⟨g,i*2,none⟩) (n-i) sc]).run prog W=.ok (.int .i64 ((n-i:Nat):Int)) (W.setRow w.heap.size c2.toArray):=fun W hW ty dc sc=>by
  obtain⟨n1,n2⟩:=EQ W hW;have:=Q1f (P:=prog) W 231 231 ty 236 2 w.heap.size ((i+1)*2) (n-i) dc ⟨g,i*2,none⟩ (n-i) sc (n-i) c1.toArray 236 (xs.drop (i*2)) underlying231 AB n1 (by simp only[Z2b];split <;> omega) BA
   (fun j v hj=>by
    rw[Addr.add_lit];have:W.cell? ⟨g,i*2+j,none⟩=w.cell? ⟨g,i*2+j,none⟩:=by simp[World.cell?,n2 g Jh]
    rw[this];exact Ai _ v (by rwa [Z2c] at hj)) (by rw[BA];simp only[Z2f];omega) (fun v hv=>ox v (Z2d hv))
  rw[show(i+1)*2=i*2+2 by omega] at this ⊢;rw[this,Ay]
 have HR:Hid (∀w':World,w'.heap=(((w.alloc (.cells ROW 236)).setRow w.heap.size c1.toArray).setRow w.heap.size c2.toArray).heap->w'.os=w.os->w'.tape=w.tape->w'.output=w.output->InsP 236 n (some g) (xs.take (i*2)++[v0,v1]++xs.drop (i*2)) w (.returned (.slice (some ⟨w.heap.size,0,none⟩) (n+1) G)) w'):=fun w' hW h1 h2 h3=>by
  obtain⟨n1,n2⟩:=EQ _ rfl;refine⟨_,rfl,⟨by simp only[Z0s,Z1T,Z0t,Z1Z];omega,.inr ⟨w.heap.size,G,c2.toArray,rfl,Z1C _,by rw[hW];exact setRow_heap _ _ c1.toArray _ _ _ n1,IO,Gr,by simp only[Z2f];omega,?_⟩⟩,⟨h1,h2,h3,by rw[hW];simp,fun k hk _=>?_⟩,.inr rfl⟩
  ·rw[<- e3];congr 1;simp only[hx]
   first|omega|simp
  ·rw[hW,setRow_other _ _ k _ (by omega)];exact n2 k hk
 clear Ai hg A6 e1 e2 e3 ox BA hx B6 Ay hv Gt Hp Jn hN EQ Eg hG Cw AU AZ AF DO AB He Ce;generalize xs.take (i*2)++[v0,v1]++xs.drop (i*2)=ys at *
 generalize c1.toArray=a1 at *
 generalize c2.toArray=a2 at *
 have hA:=DP (w.alloc (.cells ROW 236)).drew rfl;have hB:=DZ ((w.alloc (.cells ROW 236)).drew.setRow w.heap.size a1).drew rfl;clear DP DZ;have JS:G<=9223372036854775807:=by unfold maxLen at Gr;omega
 have Bd:¬((i:Int)=(n:Int)):=by omega
 have Gw:IntKind.i64.wrap ((i:Int)+1)=(i:Int)+1:=Go.IntWalk.i64_in _ (by omega);have Fb:IntKind.i64.wrap ((n:Int)+1)=(n:Int)+1:=Go.IntWalk.i64_in _ (by omega);have GZ:((i:Int)+1).toNat=i+1:=by omega
 have B9:(0:Int)<=(i:Int)+1:=by omega
 have Bg:i<=n:=by omega
 have JU:i+1<=n:=by omega
 have D2:(i:Int)<=(n:Int)+1:=by omega
 have CR:(n:Int)<(n:Int)+1:=by omega
 have JW:¬(G=i):=by omega
 have IZ:¬(G=i+1):=by omega
 have EH:¬(n=i):=by omega
 have mixed:prog.follows .mixedOrders=true:=by kernel_rfl
 go_enter func132,ntmps132;go_wp2_with (at_builtin;refine Lib.wpList_append_run _ rfl _ _ _ _ rfl _ _ rfl rfl _ _ (Jq _) ?_)
 go_region_law_o (refine step_copy_runI rfl _ _ 231 231 rfl _ _ (by simp[Act.eval,Act.put]) (by simp[Act.eval,Act.put]) (hB _ _ _) ?_)
 go_wp2
 go_ret;exact HR.out _ rfl rfl rfl rfl
def InsD(A B:HL)(rv:RV)(n i:Nat)(xs news:List Value)(w:World)(r:Ending)(w':World):Prop:=
 ∃rv',r=.returned (lvOf rv' (n+1))/\rvOk rv' (n+1)/\Step (A++rowH rv 236 2 xs++B) (A++rowH rv' 236 2 (xs.take (i*2)++news++xs.drop (i*2))++B) w w'
theorem Q8E{w:World}{A B:HL}{rv:RV}{n i vb:Nat}{xs:List Value}{v0 v1:Value}(h:Sep w (A++rowH rv 236 2 xs++B))(AX:rvOk rv n)(hx:xs.length=n*2)(hi:i<=n)(hn:n<=1048576)
  (hv:Cells w vb 236 [v0,v1]) (Dr:vb∉keys (A++rowH rv 236 2 xs++B)) (ox:∀v∈xs,v.oneCell'=true) (o0:v0.oneCell'=true) (o1:v1.oneCell'=true) :
  Calls prog 132 #[lvOf rv n,.int .i64 i,.slice (some ⟨vb,0,none⟩) 1 1] w (InsD A B rv n i xs [v0,v1] w):=by
 have hr:Sep w (rowH rv 236 2 xs):=h.left.right;have AS:=Q4l hr AX hx;have key:Calls prog 132 #[lvOf rv n,.int .i64 i,.slice (some ⟨vb,0,none⟩) 1 1] w (InsP 236 n (lvOf rv n).ownBlock (xs.take (i*2)++[v0,v1]++xs.drop (i*2)) w):=by
  by_cases Bg:i=n
  ·subst Bg;have:=Q8D AS AX hn (hv.cell 0 _ rfl) (hv.cell 1 _ rfl) o0 o1;rw[Z1z (by omega),Z1X (by omega),Z1G];exact this
  ·cases rv with
   | none=>have:n=0:=AX;omega
   | some p =>
    obtain⟨g,Aa⟩:=p;obtain⟨o,ho,Ac,rfl,AM,A6⟩:=hr.get (b:=g) (q:=isR 236 (Aa*2) xs) (by simp[rowH]);by_cases hc:n+1<=Aa
    ·exact Q5F ho AM A6 hx (by omega) hn hc AX.2 hv (fun e=>Dr (by subst e;simp[rowH])) ox o0 o1
    ·have:Aa=n:=by have:=AX.1;omega
     subst this;exact Q7i ho A6 hx (by omega) hn hv ox o0 o1
 refine key.mono ?_;rintro r w'⟨v',rfl,q1,q2,q3⟩;obtain⟨rv',rfl,e2,e3⟩:=Q1b h q1 q2 q3;exact⟨rv',rfl,e2,e3⟩
theorem Q3G{P:Program}(w:World)(t e ty:TypeId)(z:Value)(ht:P.underlying t=some (.slice e))(hv:∀w,(zeroValue e).run P w=.ok z w)(g o n c:Nat)(hn:0<n)(Ac:Array Value)(T:TypeId)(hg:w.heap[g]?=some (.cells Ac T (0,0)))
  (cs:List Value) (AM:(Builtin.zeroCells z.cells n).toList=cs) (BO:o+cs.length<=Ac.size) (h1:∀v∈cs,v.oneCell'=true) :
  (Builtin.clear_ #[t] ty #[.slice (some ⟨g,o,none⟩) n c]).run P w=.ok (.tuple #[]) (w.setRow g (Ac.toList.take o++cs++Ac.toList.drop (o+cs.length)).toArray):=by
 have Ah:=run_storeCells_at P g o T cs 0 Ac w hg (by simpa using BO) h1;simp only[Z0g] at Ah;obtain⟨m,rfl⟩:∃m,n=m+1:=⟨n-1,by omega⟩
 simp[Builtin.clear_,run_underlying ht,hv,AM,Ah]
theorem Q5G(Ac xs zs:List Value)(p s:Nat)(hx:Ac.take xs.length=xs)(hp:p+s<=xs.length)(hz:zs.length=s)(hl:xs.length<=Ac.length) :
  let c1:=Ac.take p++xs.drop (p+s)++Ac.drop (p+(xs.drop (p+s)).length)
  let c2:=c1.take (xs.length-s)++zs++c1.drop (xs.length-s+zs.length)
  c1.length=Ac.length/\c2.length=Ac.length/\c2.take (xs.length-s)=xs.take p++xs.drop (p+s):=by
 have e0:(xs.drop (p+s)).length=xs.length-(p+s):=Z1S;have e1:(Ac.take p++xs.drop (p+s)++Ac.drop (p+(xs.drop (p+s)).length)).length=Ac.length:=by
  simp only[Z0s,Z1T,Z1S];omega
 refine⟨e1,?_,?_⟩
 ·simp only[Z0s,Z1T,Z1S];omega
 ·have ht:(Ac.take p++xs.drop (p+s)++Ac.drop (p+(xs.drop (p+s)).length)).take (xs.length-s)=xs.take p++xs.drop (p+s):=by
   have e2:(Ac.take p++xs.drop (p+s)).length=xs.length-s:=by simp;omega
   rw[<- e2,Z1Y];congr 1;rw[<- hx,Z1V,show min p xs.length=p by omega]
  show List.take (xs.length-s) _=_;rw[ht,Z0F,Z1U (by simp;omega),Z1z (by simp;omega)]
theorem Q0X{P:Program}{ops:Array Oper}{o:Oper}{a:Act}{w:World}{K:Act->World->Prop}{Q:Exit->Act->World->Prop}{E:Prop}
  (hg:o.guard=none) (d x:Operand) (dT sT:TypeId) (hop:o.op=Op.call {callee:=Callee.builtin Builtin.append,args:=#[d,x],argTypes:=#[dT,sT]})
  (v u:Value) (hd:a.eval d=v) (hx:a.eval x=u) {v':Value} {w':World} (hr:(Builtin.append_ #[dT,sT] o.type #[v,u]).run P w=.ok v' w') (hK:K (a.put o.dst v') w') :
  if Region.wanted o (yielded ops a.tmps)=true then Oper.wp P o a w K Q else E:=by
 have hw:Region.wanted o (yielded ops a.tmps)=true:=by simp[Region.wanted,hg]
 rw[if_pos hw];unfold Oper.wp execOp;simp only[hop,resolve,invoke,builtin,Sem.run_bind,Sem.run_pure,Result.andThen_ok,List.map_toArray,Z0b,Z2g,hd,hx,hr];exact hK
def DelP(g Aa k:Nat)(ys:List Value)(w:World)(r:Ending)(w':World):Prop:=
 r=.returned (.slice (some ⟨g,0,none⟩) k Aa)/\w'.ownsRow 0 236 2 (.slice (some ⟨g,0,none⟩) k Aa) k ys/\w.grownBy w' (some g)
theorem Q8F{w:World}{g Aa k i:Nat}{xs:List Value}{Ac:Array Value}(hg:w.heap[g]?=some (.cells Ac 236 (0,0)))(AM:Ac.size=Aa*2)(A6:Ac.toList.take xs.length=xs)(hx:xs.length=(k+1)*2)(hi:i<=k)(hn:k<=1048576)(hc:k+1<=Aa)(Bu:Aa<=maxLen)
  (ox:∀v∈xs,v.oneCell'=true) :
  Calls prog 146 #[.slice (some ⟨g,0,none⟩) (k+1) Aa,.int .i64 i,.int .i64 ((i:Int)+1)] w (DelP g Aa k (xs.take (i*2)++xs.drop (i*2+2)) w):=by
 obtain⟨i0,AU,AZ,AF,DO⟩:=info_parts infopage;have AT:Ac.toList.length=Aa*2:=by simpa using AM
 have Ai:∀j v,xs[j]?=some v->w.drew.cell? ⟨g,j,none⟩=some v:=fun j v hj=>by
  have:Ac.toList[j]?=some v:=by
   rw[<- A6] at hj;rw[Z1D] at hj;split at hj
   ·exact hj
   ·cases hj
  rw[Z2a] at this;show w.cell? _=_;simp[World.cell?,hg,this]
 have BA:(xs.drop (i*2+2)).length=(k-i)*2:=by rw[Z1S,hx];omega
 have CO:=Q5G Ac.toList xs [.pointer none,.int .i64 0] (i*2) 2 A6 (by omega) rfl (by omega);obtain⟨e1,e2,e3⟩:=CO;rw[show xs.length-2=k*2 by omega] at e2 e3;obtain⟨c1,B6⟩:∃c1:List Value,c1=Ac.toList.take (i*2)++xs.drop (i*2+2)++Ac.toList.drop (i*2+(xs.drop (i*2+2)).length):=⟨_,rfl⟩
 rw[<- B6] at e1 e2 e3;obtain⟨c2,Ay⟩:∃c2:List Value,c2=c1.take (k*2)++[.pointer none,.int .i64 0]++c1.drop (k*2+[Value.pointer none,.int .i64 0].length):=⟨_,rfl⟩
 rw[<- Ay] at e2 e3;obtain⟨a,hA,Cv⟩:∃a:Addr,(if Aa=i+1 then(some (⟨g,0,none⟩:Addr)) else some ⟨g,(i+1)*2,none⟩)=some a/\∀j u,(xs.drop (i*2+2))[j]?=some u->w.drew.cell? (a.add j)=some u:=by
  by_cases EH:Aa=i+1
  ·refine⟨⟨g,0,none⟩,by simp[EH],fun j u hj=>?_⟩;have:(xs.drop (i*2+2)).length=0:=by rw[BA];omega
   rw[Z1Q this] at hj;simp at hj
  ·refine⟨⟨g,(i+1)*2,none⟩,by simp[EH],fun j u hj=>?_⟩;rw[Addr.add_lit];exact Ai _ u (by rw[Z2c] at hj;rwa [show(i+1)*2+j=i*2+2+j by omega])
 have I5:∀ty,(Builtin.append_ #[231,231] ty #[.slice (some ⟨g,0,none⟩) i Aa,.slice (some a) (k-i) (Aa-(i+1))]).run prog w.drew=.ok (.slice (some ⟨g,0,none⟩) k Aa) (w.drew.setRow g c1.toArray):=fun ty=>by
  have:=run_append_room (P:=prog) w.drew 231 ty 236 i0 underlying231 AU g i Aa Ac hg a (k-i) (Aa-(i+1)) (xs.drop (i*2+2)) (by rw[AF];exact BA) Cv (fun v hv=>ox v (Z2d hv)) (by omega) (by rw[AF,BA,AM];omega);rw[AF,show i+(k-i)=k by omega] at this;rw[this,B6]
 have Bn:(w.drew.setRow g c1.toArray).heap[g]?=some (.cells c1.toArray 236 (0,0)):=setRow_heap w.drew g Ac _ _ _ hg;have IN:∀ty,(Builtin.clear_ #[231] ty #[.slice (some ⟨g,k*2,none⟩) 1 (Aa-k)]).run prog (w.drew.setRow g c1.toArray)=.ok (.tuple #[]) ((w.drew.setRow g c1.toArray).setRow g c2.toArray):=fun ty=>by
  have:=Q3G (P:=prog) (w.drew.setRow g c1.toArray) 231 236 ty _ underlying231 zeroValue236 g (k*2) 1 (Aa-k) (by omega) c1.toArray 236 Bn [.pointer none,.int .i64 0] (by first|kernel_rfl|decide|simp[Builtin.zeroCells,Value.cells]) (by simp only[Z2f,Z0t,Z1Z];omega) (by simp[Value.oneCell']);rw[this,Ay]
 have HR:Hid (DelP g Aa k (xs.take (i*2)++xs.drop (i*2+2)) w (.returned (.slice (some ⟨g,0,none⟩) k Aa)) ((w.drew.setRow g c1.toArray).setRow g c2.toArray)):=by
  have Bl:((w.drew.setRow g c1.toArray).setRow g c2.toArray).heap[g]?=some (.cells c2.toArray 236 (0,0)):=setRow_heap _ g c1.toArray _ _ _ Bn;refine⟨rfl,⟨by simp only[Z0s,Z1T,BA,hx];omega,.inr ⟨g,Aa,c2.toArray,rfl,Z1C _,Bl,by omega,Bu,by simp only[Z2f];omega,?_⟩⟩,⟨rfl,rfl,rfl,by simp,fun j _ hj=>?_⟩⟩
  ·first
    | exact e3
    | (have:(xs.take (i*2)++xs.drop (i*2+2)).length=k*2:=(by simp only[Z0s,Z1T,BA,hx];omega);rw[this];exact e3)
  ·have BK:j≠g:=fun e=>hj (by rw[e])
   rw[setRow_other _ g j _ BK,setRow_other _ g j _ BK];rfl
 clear Ai hg AM A6 Bn e1 e2 e3 AT ox BA hx B6 Ay Cv AU AZ AF DO;generalize xs.take (i*2)++xs.drop (i*2+2)=ys at *
 generalize c1.toArray=a1 at *
 generalize c2.toArray=a2 at *
 have Fu:Aa<=9223372036854775807:=by unfold maxLen at Bu;omega
 have Bd:¬((i:Int)=(i:Int)+1):=by omega
 have GZ:((i:Int)+1).toNat=i+1:=by omega
 have A6:((k:Int)+1).toNat=k+1:=by omega
 have B9:(0:Int)<=(i:Int)+1:=by omega
 have AG:(0:Int)<=(k:Int)+1:=by omega
 have D2:(i:Int)<=(i:Int)+1:=by omega
 have D8:(i:Int)+1<=(k:Int)+1:=by omega
 have CR:(k:Int)<=(k:Int)+1:=by omega
 have JL:(k:Int)+1<=(Aa:Int):=by omega
 have DW:i<=Aa:=by omega
 have Ca:¬(Aa=k):=by omega
 have mixed:prog.follows .mixedOrders=true:=by kernel_rfl
 go_enter func146,ntmps146;go_wp2_with fail
 go_region_law_o (refine Q0X rfl _ _ 231 231 rfl _ _ (by simp[Act.eval,Act.put]) (by simp[Act.eval,Act.put]) (I5 _) ?_)
 go_wp2_with fail;go_ret;exact HR.out
theorem Q2r(pg:List (BM×Nat))(k:Nat)(x:BM×Nat)(m':BM)(hx:pg[k]?=some x)(hb:m'.b=x.1.b):Q0b (pg.set k (m',x.2))=Q0b pg:=by
 induction pg generalizing k with
 | nil=>rfl
 | cons y r ih =>
  cases k with
  | zero =>
   simp at hx;subst hx;show [ptr m'.b,_]++Q0b r=[ptr y.1.b,_]++Q0b r;rw[hb]
  | succ k =>
   show _++Q0b (r.set k (m',x.2))=_++Q0b r;rw[ih k (by simpa using hx)]
def CA.pageTo(c:CA)(k:Nat)(x:BM×Nat)(m':BM):CA:={c with pg:=c.pg.set k (m',x.2)}
theorem CA.turnB{w w':World}{c:CA}(h:Sep w c.hl)(k:Nat)(x:BM×Nat)(hx:c.pg[k]?=some x)(m':BM)(hb:m'.b=x.1.b)(Ah:Step x.1.hl m'.hl w w'):Step c.hl (c.pageTo k x m').hl w w':=by
 have hk:=(Z0k.1 hx).1;have e1:pgH c.pg=(c.pg.take k).flatMap (fun x=>x.1.hl)++x.1.hl++(c.pg.drop (k+1)).flatMap (fun x=>x.1.hl):=Q1r (fun x:BM×Nat=>x.1.hl) _ _ _ hx;have e2:pgH (c.pg.set k (m',x.2))=(c.pg.take k).flatMap (fun x=>x.1.hl)++m'.hl++(c.pg.drop (k+1)).flatMap (fun x=>x.1.hl):=Q8h (fun x:BM×Nat=>x.1.hl) _ _ _ hk;have e3:c.hl=((c.c,isC 233 [ptr c.bb,.int .i64 c.size,lvOf c.rv c.pg.length])::(rowH c.rv 236 2 (Q0b c.pg)++(c.pg.take k).flatMap (fun x=>x.1.hl)))++x.1.hl++(c.pg.drop (k+1)).flatMap (fun x=>x.1.hl):=by
  unfold CA.hl;rw[e1];simp
 have e4:(c.pageTo k x m').hl=((c.c,isC 233 [ptr c.bb,.int .i64 c.size,lvOf c.rv c.pg.length])::(rowH c.rv 236 2 (Q0b c.pg)++(c.pg.take k).flatMap (fun x=>x.1.hl)))++m'.hl++(c.pg.drop (k+1)).flatMap (fun x=>x.1.hl):=by
  unfold CA.hl CA.pageTo;simp only[];rw[e2,Q2r _ _ _ _ hx hb,Z1p];simp
 rw[e3,e4];rw[e3] at h;exact Step.frame _ _ h Ah
theorem CA.ok_page{c:CA}(ok:c.Ok)(k:Nat)(x:BM×Nat)(hx:c.pg[k]?=some x)(m':BM)(hl:m'.bits.length=x.1.bits.length):(c.pageTo k x m').Ok:=by
 have hk:=(Z0k.1 hx).1;have hm:(c.pg.set k (m',x.2)).map Prod.snd=c.pg.map Prod.snd:=by
  rw[List.map_set];show(c.pg.map Prod.snd).set k x.2=_;have:(c.pg.map Prod.snd)[k]?=some x.2:=by rw[Z1o,hx];rfl
  apply Z1l
  intro j;rw[Z1k];split
  ·rename_i e;subst e;rw[this];simp[hk]
  ·rfl
 have Bg:∀y∈c.pg.set k (m',x.2),y=(m',x.2)∨y∈c.pg:=fun y hy=>by
  rcases List.mem_or_eq_of_mem_set hy with h|h
  ·exact .inr h
  ·exact .inl h
 have ED:=Z1O hx;refine⟨by simpa[CA.pageTo] using ok.rv,ok.s0,ok.s1,?_,?_,?_,by simpa[CA.pageTo] using ok.len⟩
 ·have h1:(c.pg.map Prod.snd).Pairwise (·<·):=Z0q.2 ok.sorted;rw[<- hm] at h1;exact Z0q.1 h1
 ·intro y hy;rcases Bg y hy with rfl|h
  ·exact ok.lt x ED
  ·exact ok.lt y h
 ·intro y hy;rcases Bg y hy with rfl|h
  ·exact hl.trans (ok.many x ED)
  ·exact ok.many y h
def Q8G(c:CA)(k i:Nat)(x:BM×Nat)(w:World)(r:Ending)(w':World):Prop:=r=.returned (.int .i64 0)/\Step c.hl (c.pageTo k x {x.1 with bits:=x.1.bits.set i false}).hl w w'
theorem Q5H{w:World}{c:CA}(h:Sep w c.hl)(ok:c.Ok)(a:Nat)(ha:a<9223372036854775808)(k i:Nat)(x:BM×Nat)(hs:Q1G c a=some (k,i))(hx:c.pg[k]?=some x)(hi:x.1.bits[i]?.getD false=true)(AQ:cntB (x.1.bits.set i false)≠0) :
  Calls prog 77 #[.pointer (some ⟨c.c,0,none⟩),.int .i64 a] w (Q8G c k i x w):=by
 have k1:=Q2H h ok a ha;rw[hs] at k1;have hk:=(Z0k.1 hx).1;have AK:i<x.1.bits.length:=by
  rcases Z2h i x.1.bits.length with e|e
  ·exact e
  ·rw[Z1r e] at hi;cases hi
 have C0:=ok.many x (Z1O hx);have Cp:x.1.bits.length<=1048576:=by rw[C0];have:=Z1j 960 c.size;omega
 have Bp:=ok.len;obtain⟨rb,Aa,Am⟩:∃rb Aa,c.rv=some (rb,Aa):=by
  cases e:c.rv with
  | none=>have:=ok.rv;rw[e] at this;have:c.pg.length=0:=this;omega
  | some p=>exact⟨p.1,p.2,rfl⟩
 have Bj:Hid (∀w1,Below w.heap.size w w1->w1.cell? ⟨c.c,2,none⟩=some (.slice (some ⟨rb,0,none⟩) c.pg.length Aa)/\w1.cell? ⟨rb,k*2,none⟩=some (.pointer (some ⟨x.1.b,0,none⟩))/\w1.cell? ⟨rb,k*2+1,none⟩=some (.int .i64 ((1024*x.2:Nat):Int)) /\
   Calls prog 127 #[.pointer (some ⟨x.1.b,0,none⟩),.bool false,.slice (some ⟨w1.heap.size+1,0,none⟩) 1 1] ((w1.alloc (.cells #[.pointer (some ⟨x.1.b,0,none⟩),.int .i64 ((1024*x.2:Nat):Int)] 236)).alloc (.cells #[.int .i64 i] 3)) fun r w4=>r=.returned (.int .i64 1) /\
    w4.cell? ⟨w1.heap.size,0,none⟩=some (.pointer (some ⟨x.1.b,0,none⟩)) /\
    Calls prog 144 #[.pointer (some ⟨x.1.b,0,none⟩)] w4 (fun r w5=>r=.returned (.int .i64 (cntB (x.1.bits.set i false)))/\w4=w5)/\Q8G c k i x w (.returned (.int .i64 0)) w4):=fun w1 hb=>by
  have s1:=(h.grown hb).sep;have A3:=CA.sepR s1;rw[Am] at A3;obtain⟨e1,e2⟩:=Q0y _ _ _ hx;have Ay:=(CA.sepC s1).cell 2 _ rfl;rw[Am] at Ay;refine⟨Ay,Q0r A3 _ _ e1,Q0r A3 _ _ e2,?_⟩;have s3:=(s1.alloc (.cells #[.pointer (some ⟨x.1.b,0,none⟩),.int .i64 ((1024*x.2:Nat):Int)] 236)).alloc (.cells #[.int .i64 i] 3);have sb:=CA.sepB s3 k x hx;have Ae:∀b∈keys x.1.hl,b<w1.heap.size:=fun b A5=>(CA.sepB s1 k x hx).lt A5
  have hz:((w1.alloc (.cells #[.pointer (some ⟨x.1.b,0,none⟩),.int .i64 ((1024*x.2:Nat):Int)] 236))).heap.size=w1.heap.size+1:=by simp
  have An:=Q0P sb false i AK Cp (by rw[hi];simp) (w1.heap.size+1) (by
   have:=(Cells.new (w1.alloc (.cells #[.pointer (some ⟨x.1.b,0,none⟩),.int .i64 ((1024*x.2:Nat):Int)] 236)) 3 [.int .i64 i]).cell 0 _ rfl;rw[hz] at this;exact this) (fun hm=>by have:=Ae _ hm;omega)
  refine An.mono ?_;rintro r w4⟨rfl,Ah⟩;have DM:=CA.turnB s3 k x hx {x.1 with bits:=x.1.bits.set i false} rfl Ah;refine⟨rfl,?_,Q1N Ah.sep (by simpa using Cp),rfl,(h.grown hb).trans DM.from_alloc.from_alloc⟩;have hn:w1.heap.size∉keys x.1.hl:=fun hm=>by have:=Ae _ hm;omega
  have A5:=Ah.chg.block w1.heap.size (by simp;omega) hn;have IC:=((Cells.new w1 236 [.pointer (some ⟨x.1.b,0,none⟩),.int .i64 ((1024*x.2:Nat):Int)]).alloc (.cells #[.int .i64 i] 3)).cell 0 _ rfl;have:w4.cell? ⟨w1.heap.size,0,none⟩=((w1.alloc (.cells #[.pointer (some ⟨x.1.b,0,none⟩),.int .i64 ((1024*x.2:Nat):Int)] 236)).alloc (.cells #[.int .i64 i] 3)).cell? ⟨w1.heap.size,0,none⟩:=by simp only[World.cell?,A5]
  rw[this];exact IC
 have HQ:Hid (∀r w',Told w (Q1z (some (k,i))) r w'->r=.returned (.tuple #[.int .i64 k,.int .i64 i,.bool true])/\Below w.heap.size w w'):=fun r w' ⟨e,hb⟩=>⟨e,hb⟩
 have Br:(0:Int)<=k:=by omega
 have EN:(k:Int)<c.pg.length:=by omega
 have AU:(0:Int)<=i:=by omega
 have CD:(i:Int)<1048576:=by omega
 have Jl:((cntB (x.1.bits.set i false):Int)==0)=false:=by simpa using AQ
 clear h ok hs hx hi AK C0 Cp Am AQ;generalize cntB (x.1.bits.set i false)=cnt at *
 generalize c.pg.length=np at *
 generalize 1024*x.2=pv at *
 obtain⟨GL,Ee⟩:∃GL:Ending->World->Prop,GL=Q8G c k i x w:=⟨_,rfl⟩
 rw[<- Ee] at Bj ⊢;clear Ee;generalize x.1.b=b at *
 generalize c.c=cc at *
 go_enter func77,ntmps77;go_wp2_with fail;refine k1.mono ?_;rintro r w1 hf;obtain⟨rfl,hb⟩:=HQ.out _ _ hf;obtain⟨c1,c2,c3,An⟩:=Bj.out _ hb;have BL:=Q0a An;clear An hf hb;go_wp2_with fail;refine BL.out.mono ?_;rintro r w4⟨rfl,d1,d2,d3⟩;have HG:=Q0a d3;have HC:=Q0a d2;clear d2 d3;go_wp2_with fail;refine HC.out.mono ?_;rintro r w5⟨rfl,rfl⟩;go_wp2_with fail;exact HG.out
theorem Q2W(pg:List (BM×Nat))(k:Nat)(hk:k<pg.length):Q0b (pg.eraseIdx k)=(Q0b pg).take (k*2)++(Q0b pg).drop (k*2+2):=by
 induction pg generalizing k with
 | nil=>simp at hk
 | cons y r ih =>
  cases k with
  | zero=>rfl
  | succ k =>
   have e:=ih k (by simpa using hk);show _::_::Q0b (r.eraseIdx k)=_;rw[e,show(k+1)*2=k*2+1+1 by omega,show k*2+1+1+2=k*2+2+1+1 by omega];rfl
theorem Q5I(pg:List (BM×Nat))(k:Nat):(pgH (pg.eraseIdx k)).Sublist (pgH pg):=by
 induction pg generalizing k with
 | nil=>simp[pgH]
 | cons y r ih =>
  cases k with
  | zero=>exact Z0x _ _
  | succ k=>exact Z1E (Z1F _) (ih k)
def CA.dropPg(c:CA)(k:Nat):CA:={c with pg:=c.pg.eraseIdx k}
theorem CA.ok_drop{c:CA}(ok:c.Ok)(k:Nat)(hk:k<c.pg.length):(c.dropPg k).Ok:=by
 have AJ:(c.pg.eraseIdx k).Sublist c.pg:=Z2i _ _;have Ad:(c.pg.eraseIdx k).length=c.pg.length-1:=by rw[List.length_eraseIdx,if_pos hk]
 refine⟨?_,ok.s0,ok.s1,ok.sorted.sublist AJ,fun x hx=>ok.lt x (AJ.subset hx),fun x hx=>ok.many x (AJ.subset hx),by have:=ok.len;show(c.pg.eraseIdx k).length<=_;omega⟩;show rvOk c.rv (c.pg.eraseIdx k).length;have:=ok.rv;cases Am:c.rv with
 | none=>rw[Am] at this;have:c.pg.length=0:=this;omega
 | some p=>rw[Am] at this;exact⟨by have:=this.1;omega,this.2⟩
theorem CA.dropStep{w w1:World}{c:CA}{g Aa:Nat}(h:Sep w c.hl)(Am:c.rv=some (g,Aa))(k n:Nat)(hk:k<c.pg.length)(hn:c.pg.length=n+1)(hd:DelP g Aa n ((Q0b c.pg).take (k*2)++(Q0b c.pg).drop (k*2+2)) w (.returned (.slice (some ⟨g,0,none⟩) n Aa)) w1) :
  Step c.hl (c.dropPg k).hl w (w1.setCell ⟨c.c,2,none⟩ (.slice (some ⟨g,0,none⟩) n Aa)):=by
 obtain⟨_,q1,q2⟩:=hd;have Ad:(c.pg.eraseIdx k).length=n:=by rw[List.length_eraseIdx,if_pos hk];omega
 have e0:c.hl=[(c.c,isC 233 [ptr c.bb,.int .i64 c.size,lvOf c.rv c.pg.length])]++rowH c.rv 236 2 (Q0b c.pg)++pgH c.pg:=by unfold CA.hl;simp
 rw[e0] at h;have hb:(Value.slice (some ⟨g,0,none⟩) n Aa).ownBlock=(lvOf c.rv c.pg.length).ownBlock∨(Value.slice (some ⟨g,0,none⟩) n Aa).ownBlock=some w.heap.size:=.inl (by rw[Am];rfl);have hg:w.grownBy w1 (lvOf c.rv c.pg.length).ownBlock:=by rw[Am];exact q2
 obtain⟨rv',f1,f2,f3⟩:=Q1b h q1 hg hb;have BG:rv'=c.rv:=by
  cases rv' with
  | none=>cases f1
  | some p =>
   obtain⟨g',BZ⟩:=p;unfold lvOf at f1;cases f1;exact Am.symm
 subst BG;have s2:Step _ _ w1 _:=Sep.set (A:=[]) (b:=c.c) (T:=233) (cs:=[ptr c.bb,.int .i64 c.size,lvOf c.rv c.pg.length]) (B:=rowH c.rv 236 2 ((Q0b c.pg).take (k*2)++(Q0b c.pg).drop (k*2+2))++pgH c.pg) (by simpa using f3.sep) 2 (.slice (some ⟨g,0,none⟩) n Aa);have f3':Step c.hl ([]++(c.c,isC 233 [ptr c.bb,.int .i64 c.size,lvOf c.rv c.pg.length])::(rowH c.rv 236 2 ((Q0b c.pg).take (k*2)++(Q0b c.pg).drop (k*2+2))++pgH c.pg)) w w1:=by
  rw[e0];simpa using f3
 refine(f3'.trans s2).drop ?_;unfold CA.hl CA.dropPg;simp only[Z1K,Z2j,Z2k];rw[Q2W _ _ hk,Ad,Am];exact List.Sublist.cons_cons _ (Z1E (Z1F _) (Q5I _ _))
end Go.Proofs.YtfidemmgofcnmaaGreatDoor
