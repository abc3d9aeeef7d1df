/- What the laws of spaces share is proved. No condition. Part of a proof. -/
import Derived.Test.YtfidemmgofcnmaaGreatDoorBz02
import Derived.Deep.QuietTactic
import Derived.BigQuiet
import Derived.Laws.CopyRow
import Derived.Laws.IdiomCopy
import Derived.Lib.Overlaps
import Derived.Lib.AppendZerosOnto
import Derived.Shelf.Spec.SlicesInsert
set_option maxHeartbeats 4000000
set_option maxRecDepth 100000
set_option linter.unusedVariables false
namespace Go.Proofs.YtfidemmgofcnmaaGreatDoor
open Go.RowKit Go.Proofs.Tryz
theorem Q0D{w w':World}{B:Nat}(h:Below B w w')(n:Nat):Below B w (w'.drewN n):=⟨h.os,h.tape,h.output,h.size,h.block⟩
theorem Z4y{w:World}{m:BM}(h:Sep w m.hl)(i:Nat)(hn:m.bits.length<=1048576):Calls prog 190 #[.pointer (some ⟨m.b,0,none⟩),.int .i64 i] w fun r w'=>r=.returned (.bool (m.bits[i]?.getD false))/\w=w':=by
 by_cases hi:i<m.bits.length
 ·exact Q7J h i hi hn
 ·have:=Z4t h i (.inr (by omega));rw[J4Q (by omega)];exact this
def Q5a(c:CA)(a:Nat):Option (Nat×Nat):=
 match c.pg[Q0p c.pg (a/1024)]? with
 | none=>none
 | some x=>if x.2=a/1024/\64<=a%1024/\(a%1024-64)%c.size=0/\x.1.bits[(a%1024-64)/c.size]?.getD false=true then some (Q0p c.pg (a/1024),(a%1024-64)/c.size) else none
def Q4A:Option (Nat×Nat)->Value
 | none=>.tuple #[.int .i64 0,.int .i64 0,.bool false]
 | some (k,i)=>.tuple #[.int .i64 k,.int .i64 i,.bool true]
theorem Z7Q{w:World}(c:CA)(a:Int)(ha:a<0) :
  Calls prog 143 #[.pointer (some ⟨c.c,0,none⟩),.int .i64 a] w fun r w'=>r=.returned (Q4A none)/\w=w':=by
 unfold Q4A;go_enter func143,ntmps143
 go_wp2
 go_ret3
 exact⟨rfl,rfl⟩
theorem J0H{w:World}(cc s a q k:Nat)(hp:Bool)(FD:Ending->World->Prop)(n:Int)(FX:16<=s)(CN:s<=512)(ha:a<9223372036854775808)(Pq:(a:Int)/1024*1024=(q:Int))(L7:(a:Int)%1024-64=n)(hn:n<960)
  (k1:Calls prog 131 #[.pointer (some ⟨cc,0,none⟩),.int .i64 q] w FD) (HQ:Hid (∀r w',FD r w'->r=.returned (.tuple #[.int .i64 k,.bool hp])/\Below w.heap.size w w'))
  (HC:Hid (∀w',Below w.heap.size w w'->w'.cell? ⟨cc,1,none⟩=some (.int .i64 s)))
  (Aw:hp=false∨n<0∨(0<=n/\n%s≠0)) :
  Calls prog 143 #[.pointer (some ⟨cc,0,none⟩),.int .i64 a] w (Told w (Q4A none)):=by
 have HT:Hid (∀n w',Below w.heap.size w w'->Told w (Q4A none) (.returned (.tuple #[.int .i64 0,.int .i64 0,.bool false])) (w'.drewN n)):=fun n w' hb=>⟨rfl,Q0D hb n⟩
 by_cases h1:hp=false
 ·subst h1;clear Aw;go_enter func143,ntmps143;go_wp2_with fail;refine k1.mono ?_;rintro r w1 hf;obtain⟨rfl,hb⟩:=HQ.out _ _ hf;have c1:=HC.out _ hb;have F9:=Q0a (fun n=>HT.out n _ hb);clear hf hb;go_wp2_with fail
  go_quiet (fail)
  go_wp2_with fail
  go_ret3
  exact F9.out _
 ·have Ip:hp=true:=by cases hp <;> simp_all
  subst Ip;by_cases h2:n<0
  ·have h3:decide (n<0)=true:=by simpa using h2
   clear Aw h1;go_enter func143,ntmps143;go_wp2_with fail;refine k1.mono ?_;rintro r w1 hf;obtain⟨rfl,hb⟩:=HQ.out _ _ hf;have c1:=HC.out _ hb;have F9:=Q0a (fun n=>HT.out n _ hb);clear hf hb;go_wp2_with fail
   go_quiet (fail)
   go_wp2_with fail
   go_ret3
   exact F9.out _
  ·have h3:decide (n<0)=false:=by simpa using h2
   have h4:0<=n/\n%s≠0:=by rcases Aw with h|h|h;exact absurd h h1;exact absurd h h2;exact h
   have h5:(n.tmod (s:Int) != 0)=true:=by rw[J4S h4.1];simpa using h4.2
   have h6:(n.tmod (s:Int)==0)=false:=by rw[J4S h4.1];simpa using h4.2
   have h7:((s:Int)==0)=false:=by simp;omega
   have h8:(s:Int)≠0:=by omega
   obtain⟨m,hm⟩:∃m,n.tmod (s:Int)=m:=⟨_,rfl⟩
   rw[hm] at h5 h6;clear Aw h1 h4;go_enter func143,ntmps143;go_wp2_with fail;refine k1.mono ?_;rintro r w1 hf;obtain⟨rfl,hb⟩:=HQ.out _ _ hf;have c1:=HC.out _ hb;have F9:=Q0a (fun n=>HT.out n _ hb);clear hf hb;go_wp2_with fail
   go_quiet (fail)
   go_wp2_with fail
   go_ret3
   exact F9.out _
theorem Z7R{w:World}(cc s a q k rb np cap b:Nat)(FD:Ending->World->Prop)(n i:Nat)(v:Bool)(FX:16<=s)(CN:s<=512)(ha:a<9223372036854775808)(Pq:(a:Int)/1024*1024=(q:Int))(L7:(a:Int)%1024-64=n)(hn:n<960)(hm:n%s=0)(hi:n/s=i)(hk:k<np)(Tv:np<=1048576)
  (k1:Calls prog 131 #[.pointer (some ⟨cc,0,none⟩),.int .i64 q] w FD) (HQ:Hid (∀r w',FD r w'->r=.returned (.tuple #[.int .i64 k,.bool true])/\Below w.heap.size w w'))
  (HC:Hid (∀w',Below w.heap.size w w'->w'.cell? ⟨cc,1,none⟩=some (.int .i64 s)/\w'.cell? ⟨cc,2,none⟩=some (.slice (some ⟨rb,0,none⟩) np cap)/\w'.cell? ⟨rb,k*2,none⟩=some (.pointer (some ⟨b,0,none⟩)) /\
   ∀n,Calls prog 190 #[.pointer (some ⟨b,0,none⟩),.int .i64 i] (w'.drewN n) fun r w''=>r=.returned (.bool v)/\∃m,w''=w'.drewN m)) :
  Calls prog 143 #[.pointer (some ⟨cc,0,none⟩),.int .i64 a] w (Told w (Q4A (if v then some (k,i) else none))):=by
 have Iw:(n:Int).tmod (s:Int)=0:=by rw[J4S (by omega)];omega
 have D6:(n:Int).tdiv (s:Int)=(i:Int):=by rw[J4R (by omega),<- hi];exact(J4V n s).symm
 have h7:((s:Int)==0)=false:=by simp;omega
 have h8:(s:Int)≠0:=by omega
 have BE:(0:Int)<=k:=by omega
 have A5:(k:Int)<np:=by omega
 have h3:decide ((n:Int)<0)=false:=by simp
 have h9:(i:Int)<1024:=by have:=J4H n s;omega
 have OD:(0:Int)<=i:=by omega
 clear hm hi hn;obtain⟨z,hz⟩:∃z:Int,z=n:=⟨_,rfl⟩
 rw[<- hz] at Iw D6 h3 L7;clear hz;cases v with
 | false =>
  have HT:Hid (∀n w',Below w.heap.size w w'->Told w (Q4A (if false=true then some (k,i) else none)) (.returned (.tuple #[.int .i64 0,.int .i64 0,.bool false])) (w'.drewN n)):=fun n w' hb=>⟨rfl,Q0D hb n⟩
  go_enter func143,ntmps143;go_wp2_with fail;refine k1.mono ?_;rintro r w1 hf;obtain⟨rfl,hb⟩:=HQ.out _ _ hf;obtain⟨c1,c2,c3,CM⟩:=HC.out _ hb;have F9:=Q0a (fun n=>HT.out n _ hb);have HG:=Q0a CM;clear hf hb CM;go_wp2_with fail
  go_quiet ((go_at_call 190;exact HG.out _))
  go_wp2_with fail
  go_ret3
  exact F9.out _
 | true =>
  have HT:Hid (∀n w',Below w.heap.size w w'->Told w (Q4A (if true=true then some (k,i) else none)) (.returned (.tuple #[.int .i64 k,.int .i64 i,.bool true])) (w'.drewN n)):=fun n w' hb=>⟨rfl,Q0D hb n⟩
  go_enter func143,ntmps143;go_wp2_with fail;refine k1.mono ?_;rintro r w1 hf;obtain⟨rfl,hb⟩:=HQ.out _ _ hf;obtain⟨c1,c2,c3,CM⟩:=HC.out _ hb;have F9:=Q0a (fun n=>HT.out n _ hb);have HG:=Q0a CM;clear hf hb CM;go_wp2_with fail
  go_quiet ((go_at_call 190;exact HG.out _))
  go_wp2_with fail
  go_quiet (fail)
  go_wp2_with fail
  go_ret3
  exact F9.out _
theorem Q7M{w:World}{c:CA}(h:Sep w c.hl)(ok:c.Ok)(a:Nat)(ha:a<9223372036854775808) :
  Calls prog 143 #[.pointer (some ⟨c.c,0,none⟩),.int .i64 a] w (Told w (Q4A (Q5a c a))):=by
 have k1:=Z1o h ok (a/1024);have s0:=ok.s0;have s1:=ok.s1;have Fb:=ok.len;have Pq:(a:Int)/1024*1024=((1024*(a/1024):Nat):Int):=by omega
 have Bi:c.c<w.heap.size:=h.lt (by simp[CA.hl]);have OS:=(CA.sepC h).cell 1 _ rfl;have Mi:=(CA.sepC h).cell 2 _ rfl;have DF:Hid (∀w',Below w.heap.size w w'->w'.cell? ⟨c.c,1,none⟩=some (.int .i64 c.size)):=fun w' hb=>(hb.cell (p:=⟨c.c,1,none⟩) Bi).trans OS
 have HQ:Hid (∀r w',Z0c c.pg (a/1024) w r w'->r=.returned (.tuple #[.int .i64 (Q0p c.pg (a/1024)),.bool (Q3z c.pg (a/1024))])/\Below w.heap.size w w'):=fun r w' hf=>hf
 have no:∀hp,Q3z c.pg (a/1024)=hp->(hp=false∨(a:Int)%1024-64<0∨(0<=(a:Int)%1024-64/\((a:Int)%1024-64)%(c.size:Int)≠0))->Calls prog 143 #[.pointer (some ⟨c.c,0,none⟩),.int .i64 a] w (Told w (Q4A none)):=fun hp _ Aw =>
  J0H c.c c.size a (1024*(a/1024)) (Q0p c.pg (a/1024)) (Q3z c.pg (a/1024)) _ _ s0 s1 ha Pq rfl (by omega) k1 HQ DF (by subst hp;exact Aw)
 unfold Q5a;cases hx:c.pg[Q0p c.pg (a/1024)]? with
 | none=>exact no false (by unfold Q3z;rw[hx]) (.inl rfl)
 | some x =>
  have hh:Q3z c.pg (a/1024)=decide (x.2=a/1024):=by unfold Q3z;rw[hx]
  by_cases h1:x.2=a/1024
  ·have ht:Q3z c.pg (a/1024)=true:=by rw[hh];simpa using h1
   by_cases h2:64<=a%1024
   ·have hz:(a:Int)%1024-64=((a%1024-64:Nat):Int):=by omega
    by_cases h3:(a%1024-64)%c.size=0
    ·have hk:=(J3y.1 hx).1;obtain⟨rb,cap,AA⟩:∃rb cap,c.rv=some (rb,cap):=by
      cases e:c.rv with
      | none=>have:=ok.rv;rw[e] at this;have:c.pg.length=0:=this;omega
      | some p=>exact⟨p.1,p.2,rfl⟩
     have BJ:=CA.sepR h;rw[AA] at BJ;have Pk:rb<w.heap.size:=BJ.lt (by simp[rowH]);have DM:=CA.sepB h _ x hx;have GW:=ok.many x (J5p hx);have Hn:x.1.bits.length<=1048576:=by rw[GW];have:=J4H 960 c.size;omega
     obtain⟨e1,_⟩:=Q1J _ _ _ hx;have:=Z7R c.c c.size a (1024*(a/1024)) (Q0p c.pg (a/1024)) rb c.pg.length cap x.1.b _ (a%1024-64) ((a%1024-64)/c.size) (x.1.bits[(a%1024-64)/c.size]?.getD false) s0 s1 ha Pq hz (by omega) h3 rfl hk Fb k1 (fun r w' hf=>by rw[<- ht];exact hf) (fun w' hb=>⟨DF w' hb,by
      have:=(hb.cell (p:=⟨c.c,2,none⟩) Bi).trans Mi;rw[AA] at this;exact this,(hb.cell (p:=⟨rb,_,none⟩) Pk).trans (Q0w BJ _ _ e1),fun n=>(Z4y ((DM.grown hb).sep.drewN n) _ Hn).mono fun r w'' ⟨e,e2⟩=>⟨e,n,e2.symm⟩⟩)
     refine this.mono fun r w' hr=>?_
     simp only[h1,h2,h3,true_and];exact hr
    ·have:=no true ht (.inr (.inr ⟨by omega,by rw[hz];intro e;exact h3 (by exact_mod_cast e)⟩))
     simpa[h3] using this
   ·have:=no true ht (.inr (.inl (by omega)))
    simpa[h2] using this
  ·have:=no false (by rw[hh];simpa using h1) (.inl rfl)
   simpa[h1] using this
theorem J0I{w:World}{c:CA}(h:Sep w c.hl)(ok:c.Ok)(a:Nat)(ha:a<9223372036854775808) :
  Calls prog 122 #[.pointer (some ⟨c.c,0,none⟩),.int .i64 a] w (Told w (.bool (Q5a c a).isSome)):=by
 have k1:=Q7M h ok a ha;clear h ok;generalize Q5a c a=o at *
 generalize c.c=cc at *
 have HQ:Hid (∀r w',Told w (Q4A o) r w'->∃i j:Int,r=.returned (.tuple #[.int .i64 i,.int .i64 j,.bool o.isSome])/\Told w (.bool o.isSome) (.returned (.bool o.isSome)) w'):=fun r w' ⟨e,hb⟩=>by
  cases o with
  | none=>exact⟨0,0,e,rfl,hb⟩
  | some p=>exact⟨p.1,p.2,e,rfl,hb⟩
 generalize o.isSome=v at *
 go_enter func122,ntmps122;go_wp2_with fail;refine k1.mono ?_;rintro r w1 hf;obtain⟨i,j,rfl,Gk⟩:=HQ.out _ _ hf;have Le:=Q0a Gk;clear Gk hf;go_wp2_with fail;go_ret;exact Le.out
theorem Q2m{P:Program}(w:World)(dT sT ty elem:TypeId)(size g o dLen dCap:Nat)(a:Addr)(sLen sCap m:Nat)(Ak:Array Value)(t:TypeId)(cs:List Value)
  (hu:P.underlying dT=some (.slice elem)) (hs:(P.info? elem).map (·.size)=some size)
  (hg:w.heap[g]?=some (.cells Ak t (0,0))) (hm:Nat.min sLen dLen=m) (hn:cs.length=m*size)
  (Gc:∀j v,cs[j]?=some v->w.cell? (a.add j)=some v) (Af:o+cs.length<=Ak.size) (h1:∀v∈cs,v.oneCell'=true) :
  (Builtin.copy_ #[dT,sT] ty #[.slice (some ⟨g,o,none⟩) dLen dCap,.slice (some a) sLen sCap]).run P w =
   .ok (.int .i64 m) (w.setRow g (Ak.toList.take o++cs++Ak.toList.drop (o+cs.length)).toArray):=by
 have hl:=run_loadCells_list (P:=P) w a cs Gc;have Ao:=run_storeCells_at P g o t cs 0 Ak w hg (by simpa using Af) h1;rw[hn] at hl;cases hq:P.info? elem with
 | none=>simp[hq] at hs
 | some i =>
  have hi:i.size=size:=by simpa[hq] using hs
  simp[Builtin.copy_,run_underlying hu,Builtin.lenOf,Builtin.firstCells,sizeOf,typeInfo,hq,hi,hm,hl,Ao,goInt]
theorem Z4z(Ak:List Value)(xs news:List Value)(p:Nat)(hx:Ak.take xs.length=xs)(hp:p<=xs.length)(hl:xs.length+news.length<=Ak.length) :
  let c1:=Ak.take (p+news.length)++xs.drop p++Ak.drop (p+news.length+(xs.drop p).length)
  let c2:=c1.take p++news++c1.drop (p+news.length)
  c1.length=Ak.length/\c2.length=Ak.length/\c2.take (xs.length+news.length)=xs.take p++news++xs.drop p:=by
 have e0:(xs.drop p).length=xs.length-p:=J5t;have e1:(Ak.take (p+news.length)++xs.drop p++Ak.drop (p+news.length+(xs.drop p).length)).length=Ak.length:=by
  simp only[J3N,J5u,J5t];omega
 refine⟨e1,?_,?_⟩
 ·simp only[J3N,J5u,J5t];omega
 ·have ht:(Ak.take (p+news.length)++xs.drop p++Ak.drop (p+news.length+(xs.drop p).length)).take p=xs.take p:=by
   rw[J4b,J5v (by simp;omega),J5w,show min p (p+news.length)=p by omega];rw[<- hx,J5w,show min p xs.length=p by omega]
  have hd:(Ak.take (p+news.length)++xs.drop p++Ak.drop (p+news.length+(xs.drop p).length)).drop (p+news.length)=xs.drop p++Ak.drop (p+news.length+(xs.drop p).length):=by
   rw[J4b,J5x (by simp;omega),J5y (by simp;omega),J5l]
  show List.take (xs.length+news.length) _=_;rw[ht,hd,<- J4b];have e2:(xs.take p++news++xs.drop p).length=xs.length+news.length:=by simp;omega
  rw[<- e2,J5z]
def InsP(T:TypeId)(n:Nat)(blk:Option Nat)(ys:List Value)(w:World)(r:Ending)(w':World):Prop:=
 ∃v',r=.returned v'/\w'.ownsRow 0 T 2 v' (n+1) ys/\w.grownBy w' blk/\(v'.ownBlock=blk∨v'.ownBlock=some w.heap.size)
theorem infopage:(prog.info? 236).map (fun i=>(i.zero,i.size,i.bytes))=some (some (.agg #[.pointer none,.int .i64 0]),2,16):=by kernel_rfl
theorem J0J{w:World}{rv:RV}{n vb:Nat}{xs:List Value}{v0 v1:Value}(An:w.ownsRow 0 236 2 (lvOf rv n) n xs)(B9:rvOk rv n)(hn:n<=1048576)(b0:w.cell? ⟨vb,0,none⟩=some v0)(b1:w.cell? ⟨vb,1,none⟩=some v1)(o0:v0.oneCell'=true)(o1:v1.oneCell'=true) :
  Calls prog 132 #[lvOf rv n,.int .i64 n,.slice (some ⟨vb,0,none⟩) 1 1] w (InsP 236 n (lvOf rv n).ownBlock (xs++[v0,v1]) w):=by
 obtain⟨i0,hi,Bu,AT,Bk⟩:=info_parts infopage;have JD:∀j u,[v0,v1][j]?=some u->w.cell? ((⟨vb,0,none⟩:Addr).add j)=some u:=by
  intro j u hj
  match j,hj with
  | 0,hj=>cases hj;exact b0
  | 1,hj=>cases hj;exact b1
 obtain⟨v',w',hr,q1,q2,q3,q4⟩:=run_append_own_at (P:=prog) w 0 231 231 236 i0 (.agg #[.pointer none,.int .i64 0]) 2 16 underlying231 hi Bu AT Bk rfl (by decide) (lvOf rv n) n xs An ⟨vb,0,none⟩ 1 1 [v0,v1] rfl JD (by simp[o0,o1]) (by unfold maxLen;omega) (by omega) (J5d _);have HR:Hid (InsP 236 n (lvOf rv n).ownBlock (xs++[v0,v1]) w (.returned v') w'):=⟨v',rfl,q1,q2,q4⟩
 clear hi Bu AT Bk An q1 q2 q3 q4 JD;cases rv with
 | none =>
  have h0:n=0:=B9;subst h0;unfold lvOf at *
  go_enter func132,ntmps132;go_wp2_with (at_builtin;refine Lib.wpList_append_run _ rfl _ _ _ _ rfl _ _ rfl rfl _ _ hr ?_);go_ret;exact HR.out
 | some p =>
  obtain⟨g,cap⟩:=p;have Tq:n<=cap:=B9.1;have Cp:cap<=9223372036854775807:=by have:=B9.2;unfold maxLen at this;omega
  clear B9;unfold lvOf at *
  go_enter func132,ntmps132;go_wp2_with (at_builtin;refine Lib.wpList_append_run _ rfl _ _ _ _ rfl _ _ rfl rfl _ _ hr ?_)
  all_goals (go_ret;exact HR.out)
theorem Z4A{w:World}{g cap n i vb:Nat}{xs:List Value}{Ak:Array Value}{v0 v1:Value}(hg:w.heap[g]?=some (.cells Ak 236 (0,0)))(AO:Ak.size=cap*2)(AU:Ak.toList.take xs.length=xs)(hx:xs.length=n*2)(hi:i<n)(hn:n<=1048576)(hc:n+1<=cap)(Cp:cap<=maxLen)
  (hv:Cells w vb 236 [v0,v1]) (LB:vb≠g) (ox:∀v∈xs,v.oneCell'=true) (o0:v0.oneCell'=true) (o1:v1.oneCell'=true) :
  Calls prog 132 #[.slice (some ⟨g,0,none⟩) n cap,.int .i64 i,.slice (some ⟨vb,0,none⟩) 1 1] w (InsP 236 n (some g) (xs.take (i*2)++[v0,v1]++xs.drop (i*2)) w):=by
 have Br:(prog.info? 236).map (·.size)=some 2:=by
  obtain⟨i0,hi,Bu,AT,Bk⟩:=info_parts infopage;rw[hi];simp[AT]
 have Bi:Ak.toList.length=cap*2:=by simpa using AO
 have WL:∀lb cb,(callFunc 193 #[.slice (some ⟨vb,0,none⟩) 1 1,.slice (some ⟨g,(i+1)*2,none⟩) lb cb]).run prog w=.ok (.value (.bool false)) w:=fun lb cb=>by
  rw[run_callFunc_extern func193 (by kernel_rfl) (by kernel_rfl) (by kernel_rfl) (e:=Extern.SlicesOverlaps.overlaps #[231,231] #[4]) (by kernel_rfl),
   Lib.run_overlaps_apart w 231 4 236 underlying231 2 sizeOf236 ⟨vb,0,none⟩ ⟨g,(i+1)*2,none⟩ 1 1 lb cb LB 236 236 2 Ak.size (by simp[World.shape?,show w.heap[vb]?=_ from hv]) (by simp[World.shape?,hg]) (by omega) (hv.free 0) (hv.free 2)]
  rfl
 have EB:(xs.drop (i*2)).length=(n-i)*2:=by rw[J5t,hx];omega
 have Dm:=Z4z Ak.toList xs [v0,v1] (i*2) AU (by omega) (by simp only[J3O,J5A];omega);simp only[J3O,J5A,Nat.reduceAdd] at Dm;obtain⟨e1,e2,e3⟩:=Dm;obtain⟨c1,Cd⟩:∃c1:List Value,c1=Ak.toList.take (i*2+2)++xs.drop (i*2)++Ak.toList.drop (i*2+2+(xs.drop (i*2)).length):=⟨_,rfl⟩
 rw[<- Cd] at e1 e2 e3;obtain⟨c2,B5⟩:∃c2:List Value,c2=c1.take (i*2)++[v0,v1]++c1.drop (i*2+2):=⟨_,rfl⟩
 rw[<- B5] at e2 e3;have AL:∀j v,xs[j]?=some v->w.drew.cell? ⟨g,j,none⟩=some v:=fun j v hj=>by
  have:Ak.toList[j]?=some v:=by
   rw[<- AU] at hj;rw[J5e] at hj;split at hj
   ·exact hj
   ·cases hj
  rw[J5B] at this;show w.cell? _=_;simp[World.cell?,hg,this]
 have Qv:∀ty dc sc,(Builtin.copy_ #[231,231] ty #[.slice (some ⟨g,(i+1)*2,none⟩) (n-i) dc,.slice (some ⟨g,i*2,none⟩) (n+1-i) sc]).run prog w.drew=.ok (.int .i64 ((n-i:Nat):Int)) (w.drew.setRow g c1.toArray):=fun ty dc sc=>by
  have:=Q2m (P:=prog) w.drew 231 231 ty 236 2 g ((i+1)*2) (n-i) dc ⟨g,i*2,none⟩ (n+1-i) sc (n-i) Ak 236 (xs.drop (i*2)) underlying231 Br hg (by simp only[J5C];split <;> omega) EB
   (fun j v hj=>by rw[Addr.add_lit];exact AL _ v (by rwa [J5D] at hj)) (by rw[EB,AO];omega) (fun v hv=>ox v (J5E hv))
  rw[show(i+1)*2=i*2+2 by omega] at this ⊢;rw[this,Cd]
 have BS:(w.drew.setRow g c1.toArray).heap[g]?=some (.cells c1.toArray 236 (0,0)):=setRow_heap w.drew g Ak _ _ _ hg;have Q0:∀ty dc,(Builtin.copy_ #[231,231] ty #[.slice (some ⟨g,i*2,none⟩) (n+1-i) dc,.slice (some ⟨vb,0,none⟩) 1 1]).run prog (w.drew.setRow g c1.toArray)=.ok (.int .i64 1) ((w.drew.setRow g c1.toArray).setRow g c2.toArray):=fun ty dc=>by
  have:=Q2m (P:=prog) (w.drew.setRow g c1.toArray) 231 231 ty 236 2 g (i*2) (n+1-i) dc ⟨vb,0,none⟩ 1 1 1 c1.toArray 236 [v0,v1] underlying231 Br BS (by simp only[J5C];split <;> omega) rfl
   (fun j v hj=>by
    rw[Addr.add_lit,J5F];have hb:(w.drew.setRow g c1.toArray).heap[vb]?=w.heap[vb]?:=setRow_other w.drew g vb _ LB;have:(w.drew.setRow g c1.toArray).cell? ⟨vb,j,none⟩=w.cell? ⟨vb,j,none⟩:=by simp[World.cell?,hb]
    rw[this];exact hv.cell j v hj) (by simp only[J3O,J5A,J5G];omega) (by simp[o0,o1])
  rw[this,B5];rfl
 have HR:Hid (InsP 236 n (some g) (xs.take (i*2)++[v0,v1]++xs.drop (i*2)) w (.returned (.slice (some ⟨g,0,none⟩) (n+1) cap)) ((w.drew.setRow g c1.toArray).setRow g c2.toArray)):=by
  have BB:((w.drew.setRow g c1.toArray).setRow g c2.toArray).heap[g]?=some (.cells c2.toArray 236 (0,0)):=setRow_heap _ g c1.toArray _ _ _ BS;refine⟨_,rfl,⟨by simp only[J3N,J5u,J3O,J5A];omega,.inr ⟨g,cap,c2.toArray,rfl,J5d _,BB,hc,Cp,by simp only[J5G];omega,?_⟩⟩,⟨rfl,rfl,rfl,by simp,fun k _ hk=>?_⟩,.inl rfl⟩
  ·rw[<- e3];congr 1;simp only[hx]
   first|omega|simp
  ·have BR:k≠g:=fun e=>hk (by rw[e])
   rw[setRow_other _ g k _ BR,setRow_other _ g k _ BR];rfl
 clear AL hg AO AU BS e1 e2 e3 Bi ox EB hx Cd B5 hv;generalize xs.take (i*2)++[v0,v1]++xs.drop (i*2)=ys at *
 generalize c1.toArray=a1 at *
 generalize c2.toArray=a2 at *
 have Rx:cap<=9223372036854775807:=by unfold maxLen at Cp;omega
 have Bk:¬((i:Int)=(n:Int)):=by omega
 have CU:IntKind.i64.wrap ((i:Int)+1)=(i:Int)+1:=Go.IntWalk.i64_in _ (by omega);have E3:IntKind.i64.wrap ((n:Int)+1)=(n:Int)+1:=Go.IntWalk.i64_in _ (by omega);have Te:((i:Int)+1).toNat=i+1:=by omega
 have Aq:(0:Int)<=(i:Int)+1:=by omega
 have Bj:i<=n:=by omega
 have Am:(i:Int)<=(n:Int)+1:=by omega
 have Ae:¬(cap=i+1):=by omega
 have Av:¬(cap=i):=by omega
 have mixed:prog.follows .mixedOrders=true:=by kernel_rfl
 go_enter func132,ntmps132;go_wp2_with (simp only[WL])
 go_region_law_o (refine step_copy_runI rfl _ _ 231 231 rfl _ _ (by simp[Act.eval,Act.put]) (by simp[Act.eval,Act.put]) (Qv _ _ _) ?_)
 go_wp2_with (at_builtin;refine wpList_copy_runI _ rfl _ _ 231 231 rfl _ _ rfl rfl (Q0 _ _) ?_);go_ret;exact HR.out
theorem Z2x(row:List Value)(xs news:List Value)(p:Nat)(hp:p<=xs.length)(hr:row.take p=xs.take p)(hl:xs.length+news.length<=row.length) :
  let c1:=row.take p++news++row.drop (p+news.length)
  let c2:=c1.take (p+news.length)++xs.drop p++c1.drop (p+news.length+(xs.drop p).length)
  c1.length=row.length/\c2.length=row.length/\c2.take (xs.length+news.length)=xs.take p++news++xs.drop p:=by
 have e0:(xs.drop p).length=xs.length-p:=J5t;have e1:(row.take p++news++row.drop (p+news.length)).length=row.length:=by
  simp only[J3N,J5u,J5t];omega
 refine⟨e1,?_,?_⟩
 ·simp only[J3N,J5u,J5t];omega
 ·have ht:(row.take p++news++row.drop (p+news.length)).take (p+news.length)=xs.take p++news:=by
   have:(row.take p++news).length=p+news.length:=by simp;omega
   rw[<- this,J5z,hr]
  show List.take (xs.length+news.length) _=_;rw[ht];have e2:(xs.take p++news++xs.drop p).length=xs.length+news.length:=by simp;omega
  rw[<- e2,J5z]
theorem Z7S{w:World}{g n i vb:Nat}{xs:List Value}{Ak:Array Value}{v0 v1:Value}(hg:w.heap[g]?=some (.cells Ak 236 (0,0)))(AU:Ak.toList.take xs.length=xs)(hx:xs.length=n*2)(hi:i<n)(hn:n<=1048576)
  (hv:Cells w vb 236 [v0,v1]) (ox:∀v∈xs,v.oneCell'=true) (o0:v0.oneCell'=true) (o1:v1.oneCell'=true) :
  Calls prog 132 #[.slice (some ⟨g,0,none⟩) n n,.int .i64 i,.slice (some ⟨vb,0,none⟩) 1 1] w (InsP 236 n (some g) (xs.take (i*2)++[v0,v1]++xs.drop (i*2)) w):=by
 obtain⟨i0,BH,Bu,AT,NB⟩:=info_parts infopage;have Br:(prog.info? 236).map (·.size)=some 2:=by rw[BH];simp[AT]
 have Vl:g<w.heap.size:=lt_of_block hg;have U6:vb<w.heap.size:=lt_of_block hv;have AL:∀j v,xs[j]?=some v->w.cell? ⟨g,j,none⟩=some v:=fun j v hj=>by
  have:Ak.toList[j]?=some v:=by
   rw[<- AU] at hj;rw[J5e] at hj;split at hj
   ·exact hj
   ·cases hj
  rw[J5B] at this;simp[World.cell?,hg,this]
 have Ch:(Builtin.firstCells i0.size i (.slice (some ⟨g,0,none⟩) i n)).run prog w.drew=.ok (xs.take (i*2)).toArray w.drew:=by
  rw[AT];exact run_firstCells_some w.drew 2 i ⟨g,0,none⟩ i n (xs.take (i*2)) (by rw[J5u];omega) (fun j v hj=>by
   rw[Addr.add_lit,J5F];rw[J5e] at hj;split at hj
   ·exact AL j v hj
   ·cases hj)
 have Ej:(n:Int)+1-(i:Int)=((n+1-i:Nat):Int):=by omega
 have F8:i+(n+1-i)=n+1:=by omega
 obtain⟨G,hG⟩:∃G,G=grownCap w (n+1) n 236:=⟨_,rfl⟩
 have UV:n+1<=G:=by rw[hG];exact grownCap_ge w _ _ _
 have Sd:G<=maxLen:=by rw[hG];exact grownCap_le_maxLen w (n+1) n _ (by unfold maxLen;omega)
 obtain⟨ROW,IF⟩:∃ROW:Array Value,ROW=(xs.take (i*2)).toArray++Builtin.zeroCells (Value.agg #[.pointer none,.int .i64 0]).cells (n+1-i)++Builtin.zeroCells (Value.agg #[.pointer none,.int .i64 0]).cells (G-(n+1)):=⟨_,rfl⟩
 have UQ:∀ty,(Builtin.append_ #[231,3] ty #[.slice (some ⟨g,0,none⟩) i n,.int .i64 ((n:Int)+1-(i:Int))]).run prog w =
   .ok (.slice (some ⟨w.heap.size,0,none⟩) (n+1) G) (w.drew.alloc (.cells ROW 236)):=fun ty=>by
  have h:=Lib.run_append_grow_zeros w 231 3 ty 236 i0 _ .i64 .i64 underlying231 underlying3 BH Bu (some ⟨g,0,none⟩) i n (xs.take (i*2)) Ch (n+1-i) (by omega) (by omega) (by omega) (by omega) (by rw[NB];omega) (by rw[NB,F8];exact growslice_fits (by omega) (by omega));rw[F8] at h;rw[Ej,IF,hG];exact h
 have SX:ROW.size=G*2:=by
  rw[IF];simp only[Array.size_append,size_zeroCells,J5G,J5u,show(Value.agg #[.pointer none,.int .i64 0]).cells.size=2 from rfl];omega
 have Uz:ROW.toList.take (i*2)=xs.take (i*2):=by
  rw[IF];simp only[Array.toList_append,J4b];rw[J5v (by simp;omega)];simp[List.take_take]
 have WW:ROW.toList.length=G*2:=by simpa using SX
 have Dm:=Z2x ROW.toList xs [v0,v1] (i*2) (by omega) Uz (by simp only[J3O,J5A];omega);simp only[J3O,J5A,Nat.reduceAdd] at Dm;obtain⟨e1,e2,e3⟩:=Dm;obtain⟨c1,Cd⟩:∃c1:List Value,c1=ROW.toList.take (i*2)++[v0,v1]++ROW.toList.drop (i*2+2):=⟨_,rfl⟩
 rw[<- Cd] at e1 e2 e3;obtain⟨c2,B5⟩:∃c2:List Value,c2=c1.take (i*2+2)++xs.drop (i*2)++c1.drop (i*2+2+(xs.drop (i*2)).length):=⟨_,rfl⟩
 rw[<- B5] at e2 e3;have EB:(xs.drop (i*2)).length=(n-i)*2:=by rw[J5t,hx];omega
 have hN:∀W:World,W.heap=(w.alloc (.cells ROW 236)).heap->W.heap[w.heap.size]?=some (.cells ROW 236 (0,0))/\(∀k,k<w.heap.size->W.heap[k]?=w.heap[k]?):=fun W hW=>by
  rw[hW];exact⟨heap_alloc_new w _,fun k hk=>heap_alloc_old w _ hk⟩
 have NJ:∀W:World,W.heap=(w.alloc (.cells ROW 236)).heap->∀ty dc,(Builtin.copy_ #[231,231] ty #[.slice (some ⟨w.heap.size,i*2,none⟩) (n+1-i) dc,.slice (some ⟨vb,0,none⟩) 1 1]).run prog W=.ok (.int .i64 1) (W.setRow w.heap.size c1.toArray):=fun W hW ty dc=>by
  obtain⟨n1,n2⟩:=hN W hW;have:=Q2m (P:=prog) W 231 231 ty 236 2 w.heap.size (i*2) (n+1-i) dc ⟨vb,0,none⟩ 1 1 1 ROW 236 [v0,v1] underlying231 Br n1 (by simp only[J5C];split <;> omega) rfl
   (fun j v hj=>by
    rw[Addr.add_lit,J5F];have:W.cell? ⟨vb,j,none⟩=w.cell? ⟨vb,j,none⟩:=by simp[World.cell?,n2 vb U6]
    rw[this];exact hv.cell j v hj) (by simp only[J3O,J5A];omega) (by simp[o0,o1])
  rw[this,Cd];rfl
 have Rj:∀W:World,W.heap=((w.alloc (.cells ROW 236)).setRow w.heap.size c1.toArray).heap->W.heap[w.heap.size]?=some (.cells c1.toArray 236 (0,0))/\(∀k,k<w.heap.size->W.heap[k]?=w.heap[k]?):=fun W hW=>by
  obtain⟨n1,n2⟩:=hN _ rfl;rw[hW];exact⟨setRow_heap _ w.heap.size ROW _ _ _ n1,fun k hk=>(setRow_other _ _ k _ (by omega)).trans (n2 k hk)⟩
 have Nv:∀W:World,W.heap=((w.alloc (.cells ROW 236)).setRow w.heap.size c1.toArray).heap->∀ty dc sc,(Builtin.copy_ #[231,231] ty #[.slice (some ⟨w.heap.size,(i+1)*2,none⟩) (n-i) dc,.slice (some ⟨g,i*2,none⟩) (n-i) sc]).run prog W=.ok (.int .i64 ((n-i:Nat):Int)) (W.setRow w.heap.size c2.toArray):=fun W hW ty dc sc=>by
  obtain⟨n1,n2⟩:=Rj W hW;have:=Q2m (P:=prog) W 231 231 ty 236 2 w.heap.size ((i+1)*2) (n-i) dc ⟨g,i*2,none⟩ (n-i) sc (n-i) c1.toArray 236 (xs.drop (i*2)) underlying231 Br n1 (by simp only[J5C];split <;> omega) EB
   (fun j v hj=>by
    rw[Addr.add_lit];have:W.cell? ⟨g,i*2+j,none⟩=w.cell? ⟨g,i*2+j,none⟩:=by simp[World.cell?,n2 g Vl]
    rw[this];exact AL _ v (by rwa [J5D] at hj)) (by rw[EB];simp only[J5G];omega) (fun v hv=>ox v (J5E hv))
  rw[show(i+1)*2=i*2+2 by omega] at this ⊢;rw[this,B5]
 have HR:Hid (∀w':World,w'.heap=(((w.alloc (.cells ROW 236)).setRow w.heap.size c1.toArray).setRow w.heap.size c2.toArray).heap->w'.os=w.os->w'.tape=w.tape->w'.output=w.output->InsP 236 n (some g) (xs.take (i*2)++[v0,v1]++xs.drop (i*2)) w (.returned (.slice (some ⟨w.heap.size,0,none⟩) (n+1) G)) w'):=fun w' hW h1 h2 h3=>by
  obtain⟨n1,n2⟩:=Rj _ rfl;refine⟨_,rfl,⟨by simp only[J3N,J5u,J3O,J5A];omega,.inr ⟨w.heap.size,G,c2.toArray,rfl,J5d _,by rw[hW];exact setRow_heap _ _ c1.toArray _ _ _ n1,UV,Sd,by simp only[J5G];omega,?_⟩⟩,⟨h1,h2,h3,by rw[hW];simp,fun k hk _=>?_⟩,.inr rfl⟩
  ·rw[<- e3];congr 1;simp only[hx]
   first|omega|simp
  ·rw[hW,setRow_other _ _ k _ (by omega)];exact n2 k hk
 clear AL hg AU e1 e2 e3 ox EB hx Cd B5 hv SX Uz WW hN Rj Ch hG IF BH Bu AT NB Br Ej F8;generalize xs.take (i*2)++[v0,v1]++xs.drop (i*2)=ys at *
 generalize c1.toArray=a1 at *
 generalize c2.toArray=a2 at *
 have hA:=NJ (w.alloc (.cells ROW 236)).drew rfl;have hB:=Nv ((w.alloc (.cells ROW 236)).drew.setRow w.heap.size a1).drew rfl;clear NJ Nv;have LP:G<=9223372036854775807:=by unfold maxLen at Sd;omega
 have Bk:¬((i:Int)=(n:Int)):=by omega
 have CU:IntKind.i64.wrap ((i:Int)+1)=(i:Int)+1:=Go.IntWalk.i64_in _ (by omega);have E3:IntKind.i64.wrap ((n:Int)+1)=(n:Int)+1:=Go.IntWalk.i64_in _ (by omega);have Te:((i:Int)+1).toNat=i+1:=by omega
 have Aq:(0:Int)<=(i:Int)+1:=by omega
 have Bj:i<=n:=by omega
 have GX:i+1<=n:=by omega
 have Am:(i:Int)<=(n:Int)+1:=by omega
 have As:(n:Int)<(n:Int)+1:=by omega
 have X1:¬(G=i):=by omega
 have UY:¬(G=i+1):=by omega
 have LS:¬(n=i):=by omega
 have mixed:prog.follows .mixedOrders=true:=by kernel_rfl
 go_enter func132,ntmps132;go_wp2_with (at_builtin;refine Lib.wpList_append_run _ rfl _ _ _ _ rfl _ _ rfl rfl _ _ (UQ _) ?_)
 go_region_law_o (refine step_copy_runI rfl _ _ 231 231 rfl _ _ (by simp[Act.eval,Act.put]) (by simp[Act.eval,Act.put]) (hB _ _ _) ?_)
 go_wp2
 go_ret;exact HR.out _ rfl rfl rfl rfl
def InsD(A B:HL)(rv:RV)(n i:Nat)(xs news:List Value)(w:World)(r:Ending)(w':World):Prop:=
 ∃rv',r=.returned (lvOf rv' (n+1))/\rvOk rv' (n+1)/\Step (A++rowH rv 236 2 xs++B) (A++rowH rv' 236 2 (xs.take (i*2)++news++xs.drop (i*2))++B) w w'
theorem J0K{w:World}{A B:HL}{rv:RV}{n i vb:Nat}{xs:List Value}{v0 v1:Value}(h:Sep w (A++rowH rv 236 2 xs++B))(B9:rvOk rv n)(hx:xs.length=n*2)(hi:i<=n)(hn:n<=1048576)
  (hv:Cells w vb 236 [v0,v1]) (LB:vb∉keys (A++rowH rv 236 2 xs++B)) (ox:∀v∈xs,v.oneCell'=true) (o0:v0.oneCell'=true) (o1:v1.oneCell'=true) :
  Calls prog 132 #[lvOf rv n,.int .i64 i,.slice (some ⟨vb,0,none⟩) 1 1] w (InsD A B rv n i xs [v0,v1] w):=by
 have hr:Sep w (rowH rv 236 2 xs):=h.left.right;have An:=Q3X hr B9 hx;have key:Calls prog 132 #[lvOf rv n,.int .i64 i,.slice (some ⟨vb,0,none⟩) 1 1] w (InsP 236 n (lvOf rv n).ownBlock (xs.take (i*2)++[v0,v1]++xs.drop (i*2)) w):=by
  by_cases Bj:i=n
  ·subst Bj;have:=J0J An B9 hn (hv.cell 0 _ rfl) (hv.cell 1 _ rfl) o0 o1;rw[J4Z (by omega),J5y (by omega),J5h];exact this
  ·cases rv with
   | none=>have:n=0:=B9;omega
   | some p =>
    obtain⟨g,cap⟩:=p;obtain⟨o,ho,Ak,rfl,AO,AU⟩:=hr.get (b:=g) (q:=isR 236 (cap*2) xs) (by simp[rowH]);by_cases hc:n+1<=cap
    ·exact Z4A ho AO AU hx (by omega) hn hc B9.2 hv (fun e=>LB (by subst e;simp[rowH])) ox o0 o1
    ·have:cap=n:=by have:=B9.1;omega
     subst this;exact Z7S ho AU hx (by omega) hn hv ox o0 o1
 refine key.mono ?_;rintro r w'⟨v',rfl,q1,q2,q3⟩;obtain⟨rv',rfl,e2,e3⟩:=Q1h h q1 q2 q3;exact⟨rv',rfl,e2,e3⟩
theorem Z0e{P:Program}(w:World)(t e ty:TypeId)(z:Value)(ht:P.underlying t=some (.slice e))(hv:∀w,(zeroValue e).run P w=.ok z w)(g o n c:Nat)(hn:0<n)(Ak:Array Value)(T:TypeId)(hg:w.heap[g]?=some (.cells Ak T (0,0)))
  (cs:List Value) (AO:(Builtin.zeroCells z.cells n).toList=cs) (Af:o+cs.length<=Ak.size) (h1:∀v∈cs,v.oneCell'=true) :
  (Builtin.clear_ #[t] ty #[.slice (some ⟨g,o,none⟩) n c]).run P w=.ok (.tuple #[]) (w.setRow g (Ak.toList.take o++cs++Ak.toList.drop (o+cs.length)).toArray):=by
 have Ao:=run_storeCells_at P g o T cs 0 Ak w hg (by simpa using Af) h1;simp only[J3q] at Ao;obtain⟨m,rfl⟩:∃m,n=m+1:=⟨n-1,by omega⟩
 simp[Builtin.clear_,run_underlying ht,hv,AO,Ao]
theorem Z4B(Ak xs zs:List Value)(p s:Nat)(hx:Ak.take xs.length=xs)(hp:p+s<=xs.length)(hz:zs.length=s)(hl:xs.length<=Ak.length) :
  let c1:=Ak.take p++xs.drop (p+s)++Ak.drop (p+(xs.drop (p+s)).length)
  let c2:=c1.take (xs.length-s)++zs++c1.drop (xs.length-s+zs.length)
  c1.length=Ak.length/\c2.length=Ak.length/\c2.take (xs.length-s)=xs.take p++xs.drop (p+s):=by
 have e0:(xs.drop (p+s)).length=xs.length-(p+s):=J5t;have e1:(Ak.take p++xs.drop (p+s)++Ak.drop (p+(xs.drop (p+s)).length)).length=Ak.length:=by
  simp only[J3N,J5u,J5t];omega
 refine⟨e1,?_,?_⟩
 ·simp only[J3N,J5u,J5t];omega
 ·have ht:(Ak.take p++xs.drop (p+s)++Ak.drop (p+(xs.drop (p+s)).length)).take (xs.length-s)=xs.take p++xs.drop (p+s):=by
   have e2:(Ak.take p++xs.drop (p+s)).length=xs.length-s:=by simp;omega
   rw[<- e2,J5z];congr 1;rw[<- hx,J5w,show min p xs.length=p by omega]
  show List.take (xs.length-s) _=_;rw[ht,J4b,J5v (by simp;omega),J4Z (by simp;omega)]
theorem Q0B{P:Program}{ops:Array Oper}{o:Oper}{a:Act}{w:World}{K:Act->World->Prop}{Q:Exit->Act->World->Prop}{E:Prop}
  (hg:o.guard=none) (d x:Operand) (dT sT:TypeId) (hop:o.op=Op.call {callee:=Callee.builtin Builtin.append,args:=#[d,x],argTypes:=#[dT,sT]})
  (v u:Value) (hd:a.eval d=v) (hx:a.eval x=u) {v':Value} {w':World} (hr:(Builtin.append_ #[dT,sT] o.type #[v,u]).run P w=.ok v' w') (hK:K (a.put o.dst v') w') :
  if Region.wanted o (yielded ops a.tmps)=true then Oper.wp P o a w K Q else E:=by
 have hw:Region.wanted o (yielded ops a.tmps)=true:=by simp[Region.wanted,hg]
 rw[if_pos hw];unfold Oper.wp execOp;simp only[hop,resolve,invoke,builtin,Sem.run_bind,Sem.run_pure,Result.andThen_ok,List.map_toArray,J3k,J5H,hd,hx,hr];exact hK
def DelP(g cap k:Nat)(ys:List Value)(w:World)(r:Ending)(w':World):Prop:=
 r=.returned (.slice (some ⟨g,0,none⟩) k cap)/\w'.ownsRow 0 236 2 (.slice (some ⟨g,0,none⟩) k cap) k ys/\w.grownBy w' (some g)
theorem J0L{w:World}{g cap k i:Nat}{xs:List Value}{Ak:Array Value}(hg:w.heap[g]?=some (.cells Ak 236 (0,0)))(AO:Ak.size=cap*2)(AU:Ak.toList.take xs.length=xs)(hx:xs.length=(k+1)*2)(hi:i<=k)(hn:k<=1048576)(hc:k+1<=cap)(Cp:cap<=maxLen)
  (ox:∀v∈xs,v.oneCell'=true) :
  Calls prog 146 #[.slice (some ⟨g,0,none⟩) (k+1) cap,.int .i64 i,.int .i64 ((i:Int)+1)] w (DelP g cap k (xs.take (i*2)++xs.drop (i*2+2)) w):=by
 obtain⟨i0,BH,Bu,AT,NB⟩:=info_parts infopage;have Bi:Ak.toList.length=cap*2:=by simpa using AO
 have AL:∀j v,xs[j]?=some v->w.drew.cell? ⟨g,j,none⟩=some v:=fun j v hj=>by
  have:Ak.toList[j]?=some v:=by
   rw[<- AU] at hj;rw[J5e] at hj;split at hj
   ·exact hj
   ·cases hj
  rw[J5B] at this;show w.cell? _=_;simp[World.cell?,hg,this]
 have EB:(xs.drop (i*2+2)).length=(k-i)*2:=by rw[J5t,hx];omega
 have Dm:=Z4B Ak.toList xs [.pointer none,.int .i64 0] (i*2) 2 AU (by omega) rfl (by omega);obtain⟨e1,e2,e3⟩:=Dm;rw[show xs.length-2=k*2 by omega] at e2 e3;obtain⟨c1,Cd⟩:∃c1:List Value,c1=Ak.toList.take (i*2)++xs.drop (i*2+2)++Ak.toList.drop (i*2+(xs.drop (i*2+2)).length):=⟨_,rfl⟩
 rw[<- Cd] at e1 e2 e3;obtain⟨c2,B5⟩:∃c2:List Value,c2=c1.take (k*2)++[.pointer none,.int .i64 0]++c1.drop (k*2+[Value.pointer none,.int .i64 0].length):=⟨_,rfl⟩
 rw[<- B5] at e2 e3;obtain⟨a,hA,Gc⟩:∃a:Addr,(if cap=i+1 then(some (⟨g,0,none⟩:Addr)) else some ⟨g,(i+1)*2,none⟩)=some a/\∀j u,(xs.drop (i*2+2))[j]?=some u->w.drew.cell? (a.add j)=some u:=by
  by_cases LS:cap=i+1
  ·refine⟨⟨g,0,none⟩,by simp[LS],fun j u hj=>?_⟩;have:(xs.drop (i*2+2)).length=0:=by rw[EB];omega
   rw[J5r this] at hj;simp at hj
  ·refine⟨⟨g,(i+1)*2,none⟩,by simp[LS],fun j u hj=>?_⟩;rw[Addr.add_lit];exact AL _ u (by rw[J5D] at hj;rwa [show(i+1)*2+j=i*2+2+j by omega])
 have BG:∀ty,(Builtin.append_ #[231,231] ty #[.slice (some ⟨g,0,none⟩) i cap,.slice (some a) (k-i) (cap-(i+1))]).run prog w.drew=.ok (.slice (some ⟨g,0,none⟩) k cap) (w.drew.setRow g c1.toArray):=fun ty=>by
  have:=run_append_room (P:=prog) w.drew 231 ty 236 i0 underlying231 BH g i cap Ak hg a (k-i) (cap-(i+1)) (xs.drop (i*2+2)) (by rw[AT];exact EB) Gc (fun v hv=>ox v (J5E hv)) (by omega) (by rw[AT,EB,AO];omega);rw[AT,show i+(k-i)=k by omega] at this;rw[this,Cd]
 have BS:(w.drew.setRow g c1.toArray).heap[g]?=some (.cells c1.toArray 236 (0,0)):=setRow_heap w.drew g Ak _ _ _ hg;have Vb:∀ty,(Builtin.clear_ #[231] ty #[.slice (some ⟨g,k*2,none⟩) 1 (cap-k)]).run prog (w.drew.setRow g c1.toArray)=.ok (.tuple #[]) ((w.drew.setRow g c1.toArray).setRow g c2.toArray):=fun ty=>by
  have:=Z0e (P:=prog) (w.drew.setRow g c1.toArray) 231 236 ty _ underlying231 zeroValue236 g (k*2) 1 (cap-k) (by omega) c1.toArray 236 BS [.pointer none,.int .i64 0] (by first|kernel_rfl|decide|simp[Builtin.zeroCells,Value.cells]) (by simp only[J5G,J3O,J5A];omega) (by simp[Value.oneCell']);rw[this,B5]
 have HR:Hid (DelP g cap k (xs.take (i*2)++xs.drop (i*2+2)) w (.returned (.slice (some ⟨g,0,none⟩) k cap)) ((w.drew.setRow g c1.toArray).setRow g c2.toArray)):=by
  have BB:((w.drew.setRow g c1.toArray).setRow g c2.toArray).heap[g]?=some (.cells c2.toArray 236 (0,0)):=setRow_heap _ g c1.toArray _ _ _ BS;refine⟨rfl,⟨by simp only[J3N,J5u,EB,hx];omega,.inr ⟨g,cap,c2.toArray,rfl,J5d _,BB,by omega,Cp,by simp only[J5G];omega,?_⟩⟩,⟨rfl,rfl,rfl,by simp,fun j _ hj=>?_⟩⟩
  ·first
    | exact e3
    | (have:(xs.take (i*2)++xs.drop (i*2+2)).length=k*2:=(by simp only[J3N,J5u,EB,hx];omega);rw[this];exact e3)
  ·have BR:j≠g:=fun e=>hj (by rw[e])
   rw[setRow_other _ g j _ BR,setRow_other _ g j _ BR];rfl
 clear AL hg AO AU BS e1 e2 e3 Bi ox EB hx Cd B5 Gc BH Bu AT NB;generalize xs.take (i*2)++xs.drop (i*2+2)=ys at *
 generalize c1.toArray=a1 at *
 generalize c2.toArray=a2 at *
 have Rx:cap<=9223372036854775807:=by unfold maxLen at Cp;omega
 have Bk:¬((i:Int)=(i:Int)+1):=by omega
 have Te:((i:Int)+1).toNat=i+1:=by omega
 have AU:((k:Int)+1).toNat=k+1:=by omega
 have Aq:(0:Int)<=(i:Int)+1:=by omega
 have Ae:(0:Int)<=(k:Int)+1:=by omega
 have Am:(i:Int)<=(i:Int)+1:=by omega
 have Av:(i:Int)+1<=(k:Int)+1:=by omega
 have As:(k:Int)<=(k:Int)+1:=by omega
 have BW:(k:Int)+1<=(cap:Int):=by omega
 have Ge:i<=cap:=by omega
 have FS:¬(cap=k):=by omega
 have mixed:prog.follows .mixedOrders=true:=by kernel_rfl
 go_enter func146,ntmps146;go_wp2_with fail
 go_region_law_o (refine Q0B rfl _ _ 231 231 rfl _ _ (by simp[Act.eval,Act.put]) (by simp[Act.eval,Act.put]) (BG _) ?_)
 go_wp2_with fail;go_ret;exact HR.out
theorem Q6Q(pg:List (BM×Nat))(k:Nat)(x:BM×Nat)(m':BM)(hx:pg[k]?=some x)(hb:m'.b=x.1.b):Q0i (pg.set k (m',x.2))=Q0i pg:=by
 induction pg generalizing k with
 | nil=>rfl
 | cons y r ih =>
  cases k with
  | zero =>
   simp at hx;subst hx;show [ptr m'.b,_]++Q0i r=[ptr y.1.b,_]++Q0i r;rw[hb]
  | succ k =>
   show _++Q0i (r.set k (m',x.2))=_++Q0i r;rw[ih k (by simpa using hx)]
def CA.pageTo(c:CA)(k:Nat)(x:BM×Nat)(m':BM):CA:={c with pg:=c.pg.set k (m',x.2)}
theorem CA.turnB{w w':World}{c:CA}(h:Sep w c.hl)(k:Nat)(x:BM×Nat)(hx:c.pg[k]?=some x)(m':BM)(hb:m'.b=x.1.b)(Ao:Step x.1.hl m'.hl w w'):Step c.hl (c.pageTo k x m').hl w w':=by
 have hk:=(J3y.1 hx).1;have e1:pgH c.pg=(c.pg.take k).flatMap (fun x=>x.1.hl)++x.1.hl++(c.pg.drop (k+1)).flatMap (fun x=>x.1.hl):=Q3W (fun x:BM×Nat=>x.1.hl) _ _ _ hx;have e2:pgH (c.pg.set k (m',x.2))=(c.pg.take k).flatMap (fun x=>x.1.hl)++m'.hl++(c.pg.drop (k+1)).flatMap (fun x=>x.1.hl):=J0c (fun x:BM×Nat=>x.1.hl) _ _ _ hk;have e3:c.hl=((c.c,isC 233 [ptr c.bb,.int .i64 c.size,lvOf c.rv c.pg.length])::(rowH c.rv 236 2 (Q0i c.pg)++(c.pg.take k).flatMap (fun x=>x.1.hl)))++x.1.hl++(c.pg.drop (k+1)).flatMap (fun x=>x.1.hl):=by
  unfold CA.hl;rw[e1];simp
 have e4:(c.pageTo k x m').hl=((c.c,isC 233 [ptr c.bb,.int .i64 c.size,lvOf c.rv c.pg.length])::(rowH c.rv 236 2 (Q0i c.pg)++(c.pg.take k).flatMap (fun x=>x.1.hl)))++m'.hl++(c.pg.drop (k+1)).flatMap (fun x=>x.1.hl):=by
  unfold CA.hl CA.pageTo;simp only[];rw[e2,Q6Q _ _ _ _ hx hb,J4N];simp
 rw[e3,e4];rw[e3] at h;exact Step.frame _ _ h Ao
theorem CA.ok_page{c:CA}(ok:c.Ok)(k:Nat)(x:BM×Nat)(hx:c.pg[k]?=some x)(m':BM)(hl:m'.bits.length=x.1.bits.length):(c.pageTo k x m').Ok:=by
 have hk:=(J3y.1 hx).1;have hm:(c.pg.set k (m',x.2)).map Prod.snd=c.pg.map Prod.snd:=by
  rw[J5I];show(c.pg.map Prod.snd).set k x.2=_;have:(c.pg.map Prod.snd)[k]?=some x.2:=by rw[J4M,hx];rfl
  apply J4J
  intro j;rw[J4I];split
  ·rename_i e;subst e;rw[this];simp[hk]
  ·rfl
 have Bj:∀y∈c.pg.set k (m',x.2),y=(m',x.2)∨y∈c.pg:=fun y hy=>by
  rcases J5J hy with h|h
  ·exact .inr h
  ·exact .inl h
 have Ph:=J5p hx;refine⟨by simpa[CA.pageTo] using ok.rv,ok.s0,ok.s1,?_,?_,?_,by simpa[CA.pageTo] using ok.len⟩
 ·have h1:(c.pg.map Prod.snd).Pairwise (·<·):=J3L.2 ok.sorted;rw[<- hm] at h1;exact J3L.1 h1
 ·intro y hy;rcases Bj y hy with rfl|h
  ·exact ok.lt x Ph
  ·exact ok.lt y h
 ·intro y hy;rcases Bj y hy with rfl|h
  ·exact hl.trans (ok.many x Ph)
  ·exact ok.many y h
def J0M(c:CA)(k i:Nat)(x:BM×Nat)(w:World)(r:Ending)(w':World):Prop:=r=.returned (.int .i64 0)/\Step c.hl (c.pageTo k x {x.1 with bits:=x.1.bits.set i false}).hl w w'
theorem Z4C{w:World}{c:CA}(h:Sep w c.hl)(ok:c.Ok)(a:Nat)(ha:a<9223372036854775808)(k i:Nat)(x:BM×Nat)(hs:Q5a c a=some (k,i))(hx:c.pg[k]?=some x)(hi:x.1.bits[i]?.getD false=true)(Ck:cntB (x.1.bits.set i false)≠0) :
  Calls prog 77 #[.pointer (some ⟨c.c,0,none⟩),.int .i64 a] w (J0M c k i x w):=by
 have k1:=Q7M h ok a ha;rw[hs] at k1;have hk:=(J3y.1 hx).1;have CC:i<x.1.bits.length:=by
  rcases J5K i x.1.bits.length with e|e
  ·exact e
  ·rw[J4Q e] at hi;cases hi
 have GW:=ok.many x (J5p hx);have Hn:x.1.bits.length<=1048576:=by rw[GW];have:=J4H 960 c.size;omega
 have Fb:=ok.len;obtain⟨rb,cap,AA⟩:∃rb cap,c.rv=some (rb,cap):=by
  cases e:c.rv with
  | none=>have:=ok.rv;rw[e] at this;have:c.pg.length=0:=this;omega
  | some p=>exact⟨p.1,p.2,rfl⟩
 have Ev:Hid (∀w1,Below w.heap.size w w1->w1.cell? ⟨c.c,2,none⟩=some (.slice (some ⟨rb,0,none⟩) c.pg.length cap)/\w1.cell? ⟨rb,k*2,none⟩=some (.pointer (some ⟨x.1.b,0,none⟩))/\w1.cell? ⟨rb,k*2+1,none⟩=some (.int .i64 ((1024*x.2:Nat):Int)) /\
   Calls prog 127 #[.pointer (some ⟨x.1.b,0,none⟩),.bool false,.slice (some ⟨w1.heap.size+1,0,none⟩) 1 1] ((w1.alloc (.cells #[.pointer (some ⟨x.1.b,0,none⟩),.int .i64 ((1024*x.2:Nat):Int)] 236)).alloc (.cells #[.int .i64 i] 3)) fun r w4=>r=.returned (.int .i64 1) /\
    w4.cell? ⟨w1.heap.size,0,none⟩=some (.pointer (some ⟨x.1.b,0,none⟩)) /\
    Calls prog 144 #[.pointer (some ⟨x.1.b,0,none⟩)] w4 (fun r w5=>r=.returned (.int .i64 (cntB (x.1.bits.set i false)))/\w4=w5)/\J0M c k i x w (.returned (.int .i64 0)) w4):=fun w1 hb=>by
  have s1:=(h.grown hb).sep;have BJ:=CA.sepR s1;rw[AA] at BJ;obtain⟨e1,e2⟩:=Q1J _ _ _ hx;have B5:=(CA.sepC s1).cell 2 _ rfl;rw[AA] at B5;refine⟨B5,Q0w BJ _ _ e1,Q0w BJ _ _ e2,?_⟩;have s3:=(s1.alloc (.cells #[.pointer (some ⟨x.1.b,0,none⟩),.int .i64 ((1024*x.2:Nat):Int)] 236)).alloc (.cells #[.int .i64 i] 3);have sb:=CA.sepB s3 k x hx;have Aa:∀b∈keys x.1.hl,b<w1.heap.size:=fun b AJ=>(CA.sepB s1 k x hx).lt AJ
  have hz:((w1.alloc (.cells #[.pointer (some ⟨x.1.b,0,none⟩),.int .i64 ((1024*x.2:Nat):Int)] 236))).heap.size=w1.heap.size+1:=by simp
  have AR:=Q2l sb false i CC Hn (by rw[hi];simp) (w1.heap.size+1) (by
   have:=(Cells.new (w1.alloc (.cells #[.pointer (some ⟨x.1.b,0,none⟩),.int .i64 ((1024*x.2:Nat):Int)] 236)) 3 [.int .i64 i]).cell 0 _ rfl;rw[hz] at this;exact this) (fun hm=>by have:=Aa _ hm;omega)
  refine AR.mono ?_;rintro r w4⟨rfl,Ao⟩;have Bo:=CA.turnB s3 k x hx {x.1 with bits:=x.1.bits.set i false} rfl Ao;refine⟨rfl,?_,Q5v Ao.sep (by simpa using Hn),rfl,(h.grown hb).trans Bo.from_alloc.from_alloc⟩;have hn:w1.heap.size∉keys x.1.hl:=fun hm=>by have:=Aa _ hm;omega
  have AJ:=Ao.chg.block w1.heap.size (by simp;omega) hn;have Ml:=((Cells.new w1 236 [.pointer (some ⟨x.1.b,0,none⟩),.int .i64 ((1024*x.2:Nat):Int)]).alloc (.cells #[.int .i64 i] 3)).cell 0 _ rfl;have:w4.cell? ⟨w1.heap.size,0,none⟩=((w1.alloc (.cells #[.pointer (some ⟨x.1.b,0,none⟩),.int .i64 ((1024*x.2:Nat):Int)] 236)).alloc (.cells #[.int .i64 i] 3)).cell? ⟨w1.heap.size,0,none⟩:=by simp only[World.cell?,AJ]
  rw[this];exact Ml
 have HQ:Hid (∀r w',Told w (Q4A (some (k,i))) r w'->r=.returned (.tuple #[.int .i64 k,.int .i64 i,.bool true])/\Below w.heap.size w w'):=fun r w' ⟨e,hb⟩=>⟨e,hb⟩
 have BE:(0:Int)<=k:=by omega
 have Do:(k:Int)<c.pg.length:=by omega
 have BH:(0:Int)<=i:=by omega
 have K4:(i:Int)<1048576:=by omega
 have ER:((cntB (x.1.bits.set i false):Int)==0)=false:=by simpa using Ck
 clear h ok hs hx hi CC GW Hn AA Ck;generalize cntB (x.1.bits.set i false)=cnt at *
 generalize c.pg.length=np at *
 generalize 1024*x.2=pv at *
 obtain⟨GL,LZ⟩:∃GL:Ending->World->Prop,GL=J0M c k i x w:=⟨_,rfl⟩
 rw[<- LZ] at Ev ⊢;clear LZ;generalize x.1.b=b at *
 generalize c.c=cc at *
 go_enter func77,ntmps77;go_wp2_with fail;refine k1.mono ?_;rintro r w1 hf;obtain⟨rfl,hb⟩:=HQ.out _ _ hf;obtain⟨c1,c2,c3,AR⟩:=Ev.out _ hb;have CQ:=Q0a AR;clear AR hf hb;go_wp2_with fail;refine CQ.out.mono ?_;rintro r w4⟨rfl,d1,d2,d3⟩;have HG:=Q0a d3;have HC:=Q0a d2;clear d2 d3;go_wp2_with fail;refine HC.out.mono ?_;rintro r w5⟨rfl,rfl⟩;go_wp2_with fail;exact HG.out
theorem Q8D(pg:List (BM×Nat))(k:Nat)(hk:k<pg.length):Q0i (pg.eraseIdx k)=(Q0i pg).take (k*2)++(Q0i pg).drop (k*2+2):=by
 induction pg generalizing k with
 | nil=>simp at hk
 | cons y r ih =>
  cases k with
  | zero=>rfl
  | succ k =>
   have e:=ih k (by simpa using hk);show _::_::Q0i (r.eraseIdx k)=_;rw[e,show(k+1)*2=k*2+1+1 by omega,show k*2+1+1+2=k*2+2+1+1 by omega];rfl
theorem Z4D(pg:List (BM×Nat))(k:Nat):(pgH (pg.eraseIdx k)).Sublist (pgH pg):=by
 induction pg generalizing k with
 | nil=>simp[pgH]
 | cons y r ih =>
  cases k with
  | zero=>exact J3S _ _
  | succ k=>exact J5f (J5g _) (ih k)
def CA.dropPg(c:CA)(k:Nat):CA:={c with pg:=c.pg.eraseIdx k}
theorem CA.ok_drop{c:CA}(ok:c.Ok)(k:Nat)(hk:k<c.pg.length):(c.dropPg k).Ok:=by
 have BU:(c.pg.eraseIdx k).Sublist c.pg:=J5L _ _;have Ab:(c.pg.eraseIdx k).length=c.pg.length-1:=by rw[List.length_eraseIdx,if_pos hk]
 refine⟨?_,ok.s0,ok.s1,ok.sorted.sublist BU,fun x hx=>ok.lt x (BU.subset hx),fun x hx=>ok.many x (BU.subset hx),by have:=ok.len;show(c.pg.eraseIdx k).length<=_;omega⟩;show rvOk c.rv (c.pg.eraseIdx k).length;have:=ok.rv;cases AA:c.rv with
 | none=>rw[AA] at this;have:c.pg.length=0:=this;omega
 | some p=>rw[AA] at this;exact⟨by have:=this.1;omega,this.2⟩
theorem CA.dropStep{w w1:World}{c:CA}{g cap:Nat}(h:Sep w c.hl)(AA:c.rv=some (g,cap))(k n:Nat)(hk:k<c.pg.length)(hn:c.pg.length=n+1)(hd:DelP g cap n ((Q0i c.pg).take (k*2)++(Q0i c.pg).drop (k*2+2)) w (.returned (.slice (some ⟨g,0,none⟩) n cap)) w1) :
  Step c.hl (c.dropPg k).hl w (w1.setCell ⟨c.c,2,none⟩ (.slice (some ⟨g,0,none⟩) n cap)):=by
 obtain⟨_,q1,q2⟩:=hd;have Ab:(c.pg.eraseIdx k).length=n:=by rw[List.length_eraseIdx,if_pos hk];omega
 have e0:c.hl=[(c.c,isC 233 [ptr c.bb,.int .i64 c.size,lvOf c.rv c.pg.length])]++rowH c.rv 236 2 (Q0i c.pg)++pgH c.pg:=by unfold CA.hl;simp
 rw[e0] at h;have hb:(Value.slice (some ⟨g,0,none⟩) n cap).ownBlock=(lvOf c.rv c.pg.length).ownBlock∨(Value.slice (some ⟨g,0,none⟩) n cap).ownBlock=some w.heap.size:=.inl (by rw[AA];rfl);have hg:w.grownBy w1 (lvOf c.rv c.pg.length).ownBlock:=by rw[AA];exact q2
 obtain⟨rv',f1,f2,f3⟩:=Q1h h q1 hg hb;have Cr:rv'=c.rv:=by
  cases rv' with
  | none=>cases f1
  | some p =>
   obtain⟨g',Cn⟩:=p;unfold lvOf at f1;cases f1;exact AA.symm
 subst Cr;have s2:Step _ _ w1 _:=Sep.set (A:=[]) (b:=c.c) (T:=233) (cs:=[ptr c.bb,.int .i64 c.size,lvOf c.rv c.pg.length]) (B:=rowH c.rv 236 2 ((Q0i c.pg).take (k*2)++(Q0i c.pg).drop (k*2+2))++pgH c.pg) (by simpa using f3.sep) 2 (.slice (some ⟨g,0,none⟩) n cap);have f3':Step c.hl ([]++(c.c,isC 233 [ptr c.bb,.int .i64 c.size,lvOf c.rv c.pg.length])::(rowH c.rv 236 2 ((Q0i c.pg).take (k*2)++(Q0i c.pg).drop (k*2+2))++pgH c.pg)) w w1:=by
  rw[e0];simpa using f3
 refine(f3'.trans s2).drop ?_;unfold CA.hl CA.dropPg;simp only[J5l,J5M,J5N];rw[Q8D _ _ hk,Ab,AA];exact List.Sublist.cons_cons _ (J5f (J5g _) (Z4D _ _))
end Go.Proofs.YtfidemmgofcnmaaGreatDoor
