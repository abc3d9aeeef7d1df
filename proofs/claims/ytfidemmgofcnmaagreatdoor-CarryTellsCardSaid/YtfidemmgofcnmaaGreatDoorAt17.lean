/- What the laws of spaces share is proved. No condition. Part of a proof. -/
import Derived.Test.YtfidemmgofcnmaaGreatDoorAt16
set_option maxHeartbeats 4000000
set_option maxRecDepth 100000
set_option linter.unusedVariables false
namespace Go.Proofs.YtfidemmgofcnmaaGreatDoor
open Go.RowKit Go.Proofs.Tryz
structure Z2r(q:FO)(e:En Nd)(j:Nat)(F:FO):Prop where
 f:F.f=q.f
 m:F.m=q.m
 o:F.o=q.o
 N:F.N=Q0E q.N e j
 next:F.next=q.next
 rv:∀c∈F.N,rvOk (F.kr c.id) c.q.ks.length
theorem Z7N{N:List (En Nd)}{next:Int}(ok:NOk N next){a b:En Nd}(ha:a∈N)(hb:b∈N)(Ac:a.id≠b.id):a.q.ks.length+b.q.ks.length<=N.length:=by
 have AO:(a.q.ks++b.q.ks).Nodup:=by
  rw[J2q];refine⟨ok.nd a ha,ok.nd b hb,fun x hx y hy Im=>?_⟩;subst Im;obtain⟨c,hc,h1⟩:=ok.kids a ha x hx;obtain⟨d,hd,h2⟩:=ok.kids b hb x hy;rw[hc] at hd;cases hd;exact Ac (h1.symm.trans h2)
 have:=J5G AO (l₂:=N.map En.id) (fun k hk=>by
  rcases J2m.1 hk with hk|hk
  ·obtain⟨c,hc,_⟩:=ok.kids a ha k hk;obtain⟨c1,c2⟩:=Q0d hc;exact J1K.2 ⟨c,c1,c2⟩
  ·obtain⟨c,hc,_⟩:=ok.kids b hb k hk;obtain⟨c1,c2⟩:=Q0d hc;exact J1K.2 ⟨c,c1,c2⟩)
 rwa [J2j,J3g] at this
theorem Z5j{F:FO}{id:Int}{c:En Nd}(Af:F.N.Pairwise (fun a b=>a.id≠b.id))(hf:find F.N id=some c)(h:∀c∈F.N,rvOk (F.kr c.id) c.q.ks.length){n:Nd}{rv:RV}(hn:rvOk rv n.ks.length):∀d∈(F.setN id n rv).N,rvOk ((F.setN id n rv).kr d.id) d.q.ks.length:=fun d hd=>by
 obtain⟨d0,Pj,rfl⟩:=Q1r (show d∈mapE _ F.N from hd);show rvOk (if d0.id=id then rv else F.kr d0.id) (if d0.id=id then n else d0.q).ks.length;split
 ·exact hn
 ·exact h d0 Pj
theorem Q6W{wr:World}{q F:FO}{e:En Nd}{j:Nat}{k:Int}(ok:q.Ok)(he:find q.N e.id=some e)(L:Z2r q e j F)(hs:Sep wr (F.hl++ndH q.kr e))(hj:e.q.ks[j]?=some k) :
  ∃c,find F.N k=some c/\(wr.cell? ⟨F.f,0,none⟩=some (.map (some F.m))/\wr.cell? ⟨e.b,2,none⟩=some (.int .i64 e.q.par)/\wr.frozen? ⟨c.b,2,none⟩=false/\∃v,wr.cell? ⟨c.b,2,none⟩=some v) /\
   (Instr.lookup 280 (.map (some F.m)) (.int .i64 k) false).run prog wr=.ok (.pointer (some ⟨c.b,0,none⟩)) wr /\
   ((wr.setCell ⟨c.b,2,none⟩ (.int .i64 e.q.par)).cell? ⟨e.b,2,none⟩=some (.int .i64 e.q.par)) /\
   ∀W1,Below (wr.setCell ⟨c.b,2,none⟩ (.int .i64 e.q.par)).heap.size (wr.setCell ⟨c.b,2,none⟩ (.int .i64 e.q.par)) W1 ->
    (find q.N e.q.par=none->Calls prog 180 #[.pointer (some ⟨F.f,0,none⟩),.int .i64 e.q.par] W1 (fun r w'=>r=.returned (.pointer none)/\W1=w') /\
     ∃F',Z2r q e (j+1) F'/\Step (F.hl++ndH q.kr e) (F'.hl++ndH q.kr e) wr W1) /\
    (find q.N e.q.par≠none->∃(pb:Nat) (V:Value),Calls prog 180 #[.pointer (some ⟨F.f,0,none⟩),.int .i64 e.q.par] W1 (fun r w'=>r=.returned (.pointer (some ⟨pb,0,none⟩))/\W1=w')/\W1.cell? ⟨pb,3,none⟩=some V/\(∃a n c,V=.slice a n c) /\
     ∃(V':Value) (w':World),(Builtin.append_ #[38,38] 38 #[V,.slice (some ⟨W1.heap.size,0,none⟩) 1 1]).run prog (W1.alloc (.cells #[.int .i64 k] 3))=.ok V' w'/\(∃a n c,V'=.slice a n c)/\w'.cell? ⟨pb,3,none⟩=some V/\(∀i,w'.frozen? ⟨pb,i,none⟩=false) /\
      ∃F',Z2r q e (j+1) F'/\Step (F.hl++ndH q.kr e) (F'.hl++ndH q.kr e) wr (w'.setCell ⟨pb,3,none⟩ V')):=by
 obtain⟨BO,_⟩:=Q0d he;have TP:k∈e.q.ks:=J3L hj;obtain⟨d,hd,E4⟩:=ok.n.kids e BO k TP;obtain⟨F1,Io⟩:=Q0d hd;have Hm:=ok.n.rise d F1;have DN:=ok.n.rise e BO;have UK:k≠e.id:=by omega
 have DS:k≠e.q.par:=by omega
 have GG:F.N.Pairwise (fun a b=>a.id≠b.id):=by rw[L.N];exact Q5P ok.n.ids e j
 have FY:find F.N k=some {d with q:=Q0s e j d}:=by rw[L.N,Q5Q ok.n.ids,if_neg UK,hd];rfl
 generalize hc:({d with q:=Q0s e j d}:En Nd)=c at FY;obtain⟨Cy,LW⟩:=Q0d FY;have ND:=hs.left;have FR:=hs.right;have A3:Cells wr e.b 285 (e.q.cells (q.kr e.id)):=FR.cells (by simp[ndH]);obtain⟨R,p1,p2⟩:=FO.split GG FY;have AA:=(ND.perm p1).cells (b:=c.b) (T:=285) (cs:=c.q.cells (F.kr k)) (by simp);have AP:=Sep.set (A:=[]) (B:=rowH (F.kr k) 3 1 (c.q.ks.map encI)++R) (ND.perm p1) 2 (.int .i64 e.q.par);have Ba:(c.q.cells (F.kr k)).set 2 (.int .i64 e.q.par)=Nd.cells {c.q with par:=e.q.par} (F.kr k):=rfl;rw[Ba] at AP;have stF:Step F.hl (F.setN k {c.q with par:=e.q.par} (F.kr k)).hl wr (wr.setCell ⟨c.b,2,none⟩ (.int .i64 e.q.par)):=AP.perm p1.symm (p2 {c.q with par:=e.q.par} (F.kr k) rfl rfl).symm
 have st1:Step (F.hl++ndH q.kr e) ((F.setN k {c.q with par:=e.q.par} (F.kr k)).hl++ndH q.kr e) wr (wr.setCell ⟨c.b,2,none⟩ (.int .i64 e.q.par)):=by
  have:=Step.frame [] (ndH q.kr e) (by simpa using hs) stF
  simpa using this
 have Iz:Cells (wr.setCell ⟨c.b,2,none⟩ (.int .i64 e.q.par)) e.b 285 (e.q.cells (q.kr e.id)):=st1.sep.right.cells (by simp[ndH]);refine⟨c,FY,⟨FO.c0 ND,A3.cell 2 _ rfl,AA.free 2,_,AA.cell 2 _ rfl⟩,FO.look_some ND FY,Iz.cell 2 _ rfl,fun W1 hW=>?_⟩;have st1':=st1.trans (st1.sep.grown hW);have Iw:Sep W1 (F.setN k {c.q with par:=e.q.par} (F.kr k)).hl:=st1'.sep.left;have Co:(F.setN k {c.q with par:=e.q.par} (F.kr k)).N.Pairwise (fun a b=>a.id≠b.id):=Q1K (fun _ _ h=>h) GG;have MJ:=L.rv c Cy;rw[LW] at MJ;have Kx:=Z5j GG FY L.rv (n:={c.q with par:=e.q.par}) (rv:=F.kr k) MJ
 have Un:∀i,(F.setN k {c.q with par:=e.q.par} (F.kr k)).kr i=F.kr i:=fun i=>by
  show(if i=k then F.kr k else F.kr i)=F.kr i;split
  ·rename_i h;rw[h]
  ·rfl
 have find1:∀id,find (F.setN k {c.q with par:=e.q.par} (F.kr k)).N id=(find F.N id).map fun d=>{d with q:=if d.id=k then {c.q with par:=e.q.par} else d.q}:=fun id=>Q1l _ _ _
 refine⟨fun Aw=>?_,fun FG=>?_⟩
 ·have Up:find (F.setN k {c.q with par:=e.q.par} (F.kr k)).N e.q.par=none:=by
   rw[find1,L.N,Q5Q ok.n.ids,Aw];split <;> rfl
  refine⟨Q5i Iw Up,F.setN k {c.q with par:=e.q.par} (F.kr k),⟨L.f,L.m,L.o,?_,L.next,Kx⟩,st1'⟩;show mapE _ F.N=_;rw[L.N];exact Z2q ok.n.ids hj (by rw[<- L.N];exact FY) fun d hd h=>by
   have:=Q0r ok.n.ids hd;rw[h,Aw] at this;cases this
 ·obtain⟨p0,EF⟩:=J5H.1 FG;obtain⟨Ps,Lx⟩:=Q0d EF;have Gy:e.q.par≠e.id:=by omega
  have GK:find (F.setN k {c.q with par:=e.q.par} (F.kr k)).N e.q.par=some {p0 with q:=Q0s e j p0}:=by
   rw[find1,L.N,Q5Q ok.n.ids,if_neg Gy,EF];simp only[J3l,J1S];rw[Lx,if_neg (fun h=>DS h.symm)]
  generalize hp:({p0 with q:=Q0s e j p0}:En Nd)=p at GK;obtain⟨GF,Fy⟩:=Q0d GK;have L4:=Kx p GF;rw[Fy] at L4;have Vy:=Z7N ok.n Ps BO (by omega);have Cm:=ok.few;have Ab:p.q.ks.length<=65536:=by
   rw[<- hp];show(Q0s e j p0).ks.length<=_;unfold Q0s;simp only;split
   ·rw[J2j,J3Q];have:=J3M (fun k=>decide (k≠e.id)) p0.q.ks;omega
   ·omega
  obtain⟨rv',w',r5,Cn,k3,kf,st5⟩:=FO.pushK Iw Co GK L4 Ab k 38;have c3:=(FO.nd Iw GK).cell 3 (lvOf ((F.setN k {c.q with par:=e.q.par} (F.kr k)).kr p.id) p.q.ks.length) rfl;rw[Fy] at c3;have lvs:∀(rv:RV) (n:Nat),∃a n' c,lvOf rv n=.slice a n' c:=fun rv n=>by
   cases rv with
   | none=>exact⟨_,_,_,rfl⟩
   | some p=>exact⟨_,_,_,rfl⟩
  refine⟨p.b,_,Q3f Iw GK,c3,lvs _ _,_,w',r5,?_,k3,kf,(F.setN k {c.q with par:=e.q.par} (F.kr k)).setN e.q.par {p.q with ks:=p.q.ks++[k]} rv',⟨L.f,L.m,L.o,?_,L.next,?_⟩,?_⟩
  ·cases rv' with
   | none=>exact⟨_,_,_,rfl⟩
   | some p=>exact⟨_,_,_,rfl⟩
  ·show mapE _ (mapE _ F.N)=_;have hx:=Z5i ok.n.ids (e:=e) (j:=j) (k:=k) hj (ok.n.nd e BO) (c:=c) (p:=p) (by rw[<- L.N];exact FY) DS (by rw[<- L.N];exact GK);rw[L.N];exact hx
  ·exact Z5j Co GK Kx (n:={p.q with ks:=p.q.ks++[k]}) (by rw[J2j,J5u];exact Cn)
  ·have:=Step.frame [] (ndH q.kr e) (by simpa using st1'.sep) st5;exact st1'.trans (by simpa using this)
theorem Q4g(x id:Int)(b:Nat)(w:World)(h:w.cell? ⟨b,0,none⟩=some (.int .i64 id)) :
  Calls prog 241 #[.int .i64 x,.pointer (some ⟨b,0,none⟩)] w fun e w'=>e=.returned (.bool (x==id))/\w=w':=by
 go_enter func241,ntmps241
 go_wp2
 go_ret;exact⟨rfl,rfl⟩
def J0X(xs:List Int)(id:Int)(e:Ending):Prop:=
 (∃k:Nat,k<xs.length/\e=.returned (.int .i64 k)/\xs[k]?.getD 0=id/\∀j,j<k->xs[j]?.getD 0≠id)∨(e=.returned (.int .i64 (-1))/\∀j,j<xs.length->xs[j]?.getD 0≠id)
def Z5k(b:Nat):Value:=.func (.func 241) #[] #[.pointer (some ⟨b,0,none⟩)]
theorem Q9W(xs:List Int)(id:Int)(b g cap:Nat)(w:World)(h:w.cell? ⟨b,0,none⟩=some (.int .i64 id))(hm:xs.length<=4611686018427387904)
  (hc:∀k,k<xs.length->w.cell? ⟨g,k,none⟩=some (.int .i64 (xs[k]?.getD 0))) :
  Calls prog 252 #[.slice (some ⟨g,0,none⟩) xs.length cap,Z5k b] w fun e w'=>J0X xs id e/\w=w':=by
 unfold Z5k;go_enter func252,ntmps252;go_wp2_with fail
 go_loop [5,8] (fun _ i=>∃k:Nat,k<=xs.length/\i=.int .i64 k/\∀j,j<k->xs[j]?.getD 0≠id) (fun _ i=>xs.length-(intOf i).toNat)
 case atStart=>exact⟨0,J3z _,rfl,by intro j hj;omega⟩
 case round =>
  obtain⟨k,hk,rfl,Ay⟩:=hrel;have Hp:Hid (∀j,j<k->xs[j]?.getD 0≠id):=Ay;clear Ay;by_cases Aa:k<xs.length
  ·have DQ:=hc k Aa;have hh:=h;clear hc h;generalize hx:xs[k]?.getD 0=x at DQ;have Hx:Hid (xs[k]?.getD 0=x):=hx;clear hx;by_cases hx:x=id
   ·have hb:(x==id)=true:=by simpa using hx
    have Qx:Hid (x=id):=hx;clear hx;go_wp2_with (go_at_call 241;refine(Q4g _ id b _ hh).mono ?_;rintro e w'⟨rfl,rfl⟩);go_ret;exact⟨.inl ⟨k,Aa,rfl,Hx.out.trans Qx.out,Hp.out⟩,rfl⟩
   ·have hb:(x==id)=false:=by simpa using hx
    have Qx:Hid (x≠id):=hx;clear hx;go_wp2_with (go_at_call 241;refine(Q4g _ id b _ hh).mono ?_;rintro e w'⟨rfl,rfl⟩)
    go_round
    case rel =>
     refine⟨k+1,by omega,by go_num,fun j hj=>?_⟩;by_cases e:j=k
     ·subst e;rw[Hx.out];exact Qx.out
     ·exact Hp.out j (by omega)
    case measure=>simp[intOf];omega
  ·clear hc;go_wp2_with fail;go_ret;exact⟨.inr ⟨rfl,fun j hj=>Hp.out j (by omega)⟩,rfl⟩
def fltK(xs:List Int)(id:Int):List Int:=xs.filter fun x=>x != id
theorem Q8L{xs:List Int}{id:Int}(h:∀j,j<xs.length->xs[j]?.getD 0≠id):fltK xs id=xs:=by
 unfold fltK;rw[J5z];intro x hx;obtain⟨j,hj,rfl⟩:=List.getElem_of_mem hx;have:=h j hj
 simpa[hj] using this
theorem Q3y(xs:List Int)(id:Int)(j:Nat)(hj:j<xs.length) :
  fltK (xs.take (j+1)) id=if xs[j]?.getD 0=id then fltK (xs.take j) id else fltK (xs.take j) id++[xs[j]?.getD 0]:=by
 rw[J5I hj];unfold fltK;rw[J3u];by_cases h:xs[j]=id <;> simp[h,hj]
def Z7O(w:World)(g cap:Nat)(ys:List Int)(e:Ending)(w':World):Prop:=
 e=.returned (.slice (some ⟨g,0,none⟩) ys.length cap)/\(∃cs,Cells w' g 3 cs/\cs.length=cap/\cs.take ys.length=ys.map (Value.int .i64))/\w.grownBy w' (some g)
def Z5l(xs:List Int)(id:Int)(g cap:Nat)(w:World)(k0:Nat)(iv jv:Value)(wr:World):Prop:=
 ∃j cs,jv=.int .i64 (j:Nat)/\iv=.int .i64 ((fltK (xs.take j) id).length:Nat)/\k0<j/\j<=xs.length/\(fltK (xs.take j) id).length<j/\Cells wr g 3 cs/\cs.length=cap /\
  cs.take (fltK (xs.take j) id).length=(fltK (xs.take j) id).map (Value.int .i64)/\(∀m,j<=m->m<xs.length->cs[m]?=some (.int .i64 (xs[m]?.getD 0)))/\w.grownBy wr (some g)
theorem J0Y(w:World):(zeroValue 3).run prog w=.ok (.int .i64 0) w:=by kernel_rfl
theorem Q8M(xs:List Int)(id:Int)(b g cap:Nat)(w:World)(cs0:List Value)(h:w.cell? ⟨b,0,none⟩=some (.int .i64 id))(Ac:b≠g)(hc:Cells w g 3 cs0)(AS:xs.length<=cap)(Ba:cs0.length=cap)
  (htake:cs0.take xs.length=xs.map (Value.int .i64)) (hm:xs.length<=1048576) :
  Calls prog 240 #[.slice (some ⟨g,0,none⟩) xs.length cap,Z5k b] w (Z7O w g cap (fltK xs id)):=by
 have Am:∀k,k<xs.length->cs0[k]?=some (.int .i64 (xs[k]?.getD 0)):=by
  intro k hk;have h1:(cs0.take xs.length)[k]?=(xs.map (Value.int .i64))[k]?:=by rw[htake]
  rw[J3A,if_pos hk] at h1;rw[h1];simp[hk]
 have Na:=Q9W xs id b g cap w h (by omega) (fun k hk=>hc.cell k _ (Am k hk));unfold Z5k at Na ⊢;go_enter func240,ntmps240;go_wp2_with fail;refine Na.mono ?_;rintro e w'⟨⟨k,hk,rfl,NT,Ay⟩|⟨rfl,A4⟩,rfl⟩
 case inr =>
  have Ev:=Q8L A4
  go_wp2
  go_ret;rw[Ev];exact⟨rfl,⟨cs0,hc,Ba,htake⟩,⟨rfl,rfl,rfl,J1E _,fun _ _ _=>rfl⟩⟩
 case inl =>
  have RZ:fltK (xs.take k) id=xs.take k:=Q8L (by
   intro j hj;have KI:j<k:=by simp at hj;omega
   have:=Ay j KI
   simpa[J3A,KI] using this)
  have I3:fltK (xs.take (k+1)) id=xs.take k:=by rw[Q3y xs id k hk,if_pos NT,RZ]
  have Jt:Hid (Z5l xs id g cap w k (.int .i64 k) (.int .i64 ((k:Int)+1)) w):=by
   refine⟨k+1,cs0,by go_num,?_,by omega,by omega,?_,hc,Ba,?_,fun m _ hm=>Am m hm,⟨rfl,rfl,rfl,J1E _,fun _ _ _=>rfl⟩⟩
   ·rw[I3];simp;omega
   ·rw[I3];simp;omega
   ·rw[I3];have h1:=congrArg (List.take k) htake;rw[J3S,<- List.map_take] at h1;have e1:(List.take k xs).length=k:=by simp;omega
    rw[e1,<- h1];congr 1;omega
  have JS:((k:Int) == -1)=false:=by simp
  clear Am Na RZ I3 NT Ay hc htake Ba;go_wp2_with fail
  go_loopw [5,6] (fun iv jv wr=>Z5l xs id g cap w k iv jv wr) (fun _ jv _=>xs.length-(intOf jv).toNat)
  case atStart=>exact Jt.out
  case round =>
   clear Jt;obtain⟨j,cs,rfl,rfl,N2,hj,DE,hc,Ba,Ay,II,hg⟩:=hrel;generalize hi:(fltK (List.take j xs) id).length=i at DE Ay;have Hi:Hid ((fltK (List.take j xs) id).length=i):=hi;clear hi;have Bq:wr.cell? ⟨b,0,none⟩=some (.int .i64 id):=hg.cell h (by simpa using Ac);have J0:Hid (List.take i cs=List.map (Value.int IntKind.i64) (fltK (List.take j xs) id)):=Ay;have G3:Hid (∀(m:Nat),j<=m->m<xs.length->cs[m]?=some (Value.int IntKind.i64 (xs[m]?.getD 0))):=II;have KV:Hid (cs.length=cap):=Ba;clear Ay II h Ba;by_cases Aa:j<xs.length
   ·have UT:=hc.cell j _ (G3.out j (J1E _) Aa);have KQ:=hc.cell i (cs[i]?.getD undef) (by have:=KV.out;rw[J3O (by omega)];rfl);generalize hu:cs[i]?.getD undef=u at KQ;clear hu;have Fm:=hc.free i;generalize hx:xs[j]?.getD 0=x at UT;have Hx:Hid (xs[j]?.getD 0=x):=hx;clear hx;have AQ:Hid (Cells wr g 3 cs):=hc;clear hc;have Kc:=Q3y xs id j Aa;by_cases hx:x=id
    ·have Hf:Hid (fltK (List.take (j+1) xs) id=fltK (List.take j xs) id):=by rw[Kc,if_pos (Hx.out.trans hx)];exact rfl
     have E9:(x==id)=true:=by simpa using hx
     clear hx Kc;go_wp2_with (go_at_call 241;refine(Q4g _ id b _ Bq).mono ?_;rintro e w'⟨rfl,rfl⟩);go_roundw
     case rel =>
      refine⟨j+1,cs,by go_num,?_,by omega,by omega,?_,AQ.out,KV.out,?_,fun m DP D6=>G3.out m (by omega) D6,hg⟩
      ·rw[Hf.out,Hi.out]
      ·rw[Hf.out,Hi.out];omega
      ·rw[Hf.out,Hi.out];exact J0.out
     case measure=>simp[intOf];omega
    ·have Hf:Hid (fltK (List.take (j+1) xs) id=fltK (List.take j xs) id++[x]):=by rw[Kc,if_neg (by rw[Hx.out];exact hx),Hx.out];exact rfl
     have E9:(x==id)=false:=by simpa using hx
     clear hx Kc;go_wp2_with (go_at_call 241;refine(Q4g _ id b _ Bq).mono ?_;rintro e w'⟨rfl,rfl⟩);go_roundw
     case rel =>
      refine⟨j+1,cs.set i (.int .i64 x),by go_num,?_,by omega,by omega,?_,AQ.out.set _ _,by simpa using KV.out,?_,fun m DP D6=>?_,?_⟩
      ·rw[Hf.out];simp[Hi.out]
      ·rw[Hf.out];simp[Hi.out];omega
      ·rw[Hf.out];have e1:(fltK (List.take j xs) id++[x]).length=i+1:=by simp[Hi.out]
       have CC:i<cs.length:=by have:=KV.out;omega
       rw[e1,J5I (by simpa using CC),J2y (J1E _),J0.out];simp
      ·rw[J5c (by omega)];exact G3.out m (by omega) D6
      ·exact⟨hg.os,hg.tape,hg.output,by simpa using hg.size,fun q hq hqn=>(Below.heap_setCell _ _ _ _ (fun e=>hqn (by simp[e]))).trans (hg.block q hq hqn)⟩
     case measure=>simp[intOf];omega
   ·obtain rfl:j=xs.length:=by omega
    have Sp:i<cap:=by omega
    have KQ:((cap:Int)==i)=false:=by simp;omega
    have FV:¬(cap=i):=by omega
    have AQ:Hid (Cells wr g 3 cs):=hc;clear hc;go_wp2_with (refine Q3L _ rfl (.tmp 38) 38 3 rfl underlying38 (.int .i64 0) J0Y rfl rfl g i (xs.length-i) (cap-i) rfl (by omega) 3 cs AQ.out (by have:=KV.out;omega) ?_;intro w2 Bx Bw);go_ret;have CU:List.take xs.length xs=xs:=J3v (J1E _);have Qc:=Hi.out;have Jr:=J0.out;have UU:=KV.out;rw[CU] at Qc Jr;refine⟨by rw[Qc];rfl,⟨_,Bx,?_,?_⟩,?_⟩
    ·simp;omega
    ·rw[Qc,J2x,J3R (by simp;omega),J3S,Nat.min_self,Jr]
    ·exact⟨Bw.os.trans hg.os,Bw.tape.trans hg.tape,Bw.output.trans hg.output,J1F hg.size Bw.size,fun q hq hqn=>(Bw.block q (J1G hq hg.size) hqn).trans (hg.block q hq hqn)⟩
theorem Step.aside{H H':HL}{w w1 w2:World}(st:Step H H' w w1){F:Nat->Prop}(hc:Chg F w1 w2)(hF:∀b,F b->w.heap.size<=b/\b∉keys H')(Em:GB<=w.heap.size):Step H H' w w2:=
 ⟨st.sep.chg hc (fun b hb hf=>(hF b hf).2 hb) (fun b hf=>J1F Em (hF b hf).1),st.chg.trans hc (fun i hi=>.inr (hF i hi).1),st.new⟩
theorem Step.set_aside{H H':HL}{w w1:World}(st:Step H H' w w1){b:Nat}(hb:w.heap.size<=b)(hk:b∉keys H')(Em:GB<=w.heap.size)(i:Nat)(v:Value):Step H H' w (w1.setCell ⟨b,i,none⟩ v):=
 st.aside (F:=fun k=>k=b) ((Chg.refl _ _).set _ _ (.inl rfl)) (fun k BE=>by subst BE;exact⟨hb,hk⟩) Em
def FO.dropped(q:FO)(e:En Nd):FO:={q with N:=Q0E q.N e 0}
theorem FO.cutRow{w:World}{q:FO}(h:Sep w q.hl)(ok:q.Ok){e p:En Nd}(he:find q.N e.id=some e)(hp:find q.N e.q.par=some p){b:Nat}(hb:w.cell? ⟨b,0,none⟩=some (.int .i64 e.id))(AK:b∉keys q.hl)(Ha:b<w.heap.size) :
  ∃g cap:Nat,q.kr e.q.par=some (g,cap)/\Calls prog 240 #[.slice (some ⟨g,0,none⟩) p.q.ks.length cap,Z5k b] w fun r w'=>r=.returned (.slice (some ⟨g,0,none⟩) (cutK p.q e.id).ks.length cap) /\
   (w'.cell? ⟨b,0,none⟩=some (.int .i64 e.id))/\w'.frozen? ⟨p.b,3,none⟩=false/\(∃v,w'.cell? ⟨p.b,3,none⟩=some v) /\
   Step q.hl (q.setN e.q.par (cutK p.q e.id) (some (g,cap))).hl w (w'.setCell ⟨p.b,3,none⟩ (.slice (some ⟨g,0,none⟩) (cutK p.q e.id).ks.length cap)):=by
 obtain⟨BO,_⟩:=Q0d he;obtain⟨GF,Fy⟩:=Q0d hp;have BU:e.id∈p.q.ks:=by
  obtain⟨p',AL,hk⟩:=(ok.n.par e BO).2 (by have:=ok.n.rng p GF;omega);rw[hp] at AL;cases AL;exact hk
 have AC:=ok.rv p GF;rw[Fy] at AC;obtain⟨R,p1,p2⟩:=FO.split ok.n.ids hp;cases CP:q.kr e.q.par with
 | none =>
  rw[CP] at AC;have:p.q.ks.length=0:=AC;rw[J3w] at this;rw[this] at BU;cases BU
 | some gc =>
  obtain⟨g,cap⟩:=gc;rw[CP] at AC p1;obtain⟨AS,Lp⟩:p.q.ks.length<=cap/\cap<=maxLen:=AC;refine⟨g,cap,rfl,?_⟩;have pm:∀(Z:HL) (a:Nat×(Obj->Prop)),((a::Z)++R).Perm (Z++(a::R)):=fun Z a=>J5a.symm
  have h':Sep w (rowH (some (g,cap)) 3 1 (p.q.ks.map encI)++((p.b,isC 285 (p.q.cells (some (g,cap))))::R)):=h.perm (p1.trans (pm _ _));obtain⟨ds,I9,DV,Rn⟩:=h'.left.row (b:=g) (T:=3) (n:=cap*1) (cs:=p.q.ks.map encI) (by simp[rowH]);rw[J2D] at DV;rw[J3g] at Rn;have FK:g∈keys q.hl:=by
   have:g∈keys (rowH (some (g,cap)) 3 1 (p.q.ks.map encI)++((p.b,isC 285 (p.q.cells (some (g,cap))))::R)):=by simp[rowH,keys]
   exact((p1.trans (pm _ _)).map Prod.fst).mem_iff.2 this
  have EV:b≠g:=fun x=>AK (x ▸ FK)
  have Cm:=ok.n.kids_few GF;have Gl:=ok.few;have OX:fltK p.q.ks e.id=(cutK p.q e.id).ks:=by
   unfold fltK cutK;exact J4p fun x _=>by by_cases hx:x=e.id <;> simp[hx]
  refine(Q8M p.q.ks e.id b g cap w ds hb EV I9 AS DV (by rw[Rn]) (by omega)).mono ?_;rintro r w'⟨hr,⟨cs,AQ,Ba,Nv⟩,hg⟩;rw[OX] at hr Nv;have s1:=Sep.turn (A:=[]) (B:=(p.b,isC 285 (p.q.cells (some (g,cap))))::R) (q':=isR 3 (cap*1) ((cutK p.q e.id).ks.map encI)) h' hg ⟨_,AQ,cs.toArray,rfl,by simpa using Ba,by
   rw[J3g]
   simpa using Nv⟩
  have hc:=s1.sep.cells (b:=p.b) (T:=285) (cs:=p.q.cells (some (g,cap))) (by simp);have s2:=Sep.set (A:=[(g,isR 3 (cap*1) ((cutK p.q e.id).ks.map encI))]) (B:=R) s1.sep 3 (.slice (some ⟨g,0,none⟩) (cutK p.q e.id).ks.length cap);have OJ:(p.q.cells (some (g,cap))).set 3 (.slice (some ⟨g,0,none⟩) (cutK p.q e.id).ks.length cap)=(cutK p.q e.id).cells (some (g,cap)):=rfl;rw[OJ] at s2;refine⟨hr,hg.cell hb (by simpa using EV),hc.free 3,⟨_,hc.cell 3 _ rfl⟩,(s1.trans s2).perm ((p1.trans (pm _ _)).symm) ?_⟩;exact((p2 (cutK p.q e.id) (some (g,cap)) rfl rfl).trans (pm _ _)).symm
def Z7P(q:FO)(e:En Nd)(w w':World):Prop:=Step q.hl ((q.dropped e).hl++ndH q.kr e) w w'
theorem Z7Q{q:FO}(ok:q.Ok){e p:En Nd}(hp:find q.N e.q.par=some p){rv:RV}(CP:q.kr e.q.par=rv):(q.setN e.q.par (cutK p.q e.id) rv).cut e.id=q.dropped e/\(q.setN e.q.par (cutK p.q e.id) rv).kr=q.kr:=by
 have hk:(fun j=>if j=e.q.par then rv else q.kr j)=q.kr:=by
  funext j;split
  ·rename_i h;rw[h];exact CP.symm
  ·rfl
 refine⟨?_,hk⟩;unfold FO.cut FO.setN FO.dropped;simp only[hk];rw[Z7M ok.n.ids hp]
theorem Z5m{q:FO}{e:En Nd}(he:find q.N e.id=some e)(Ac:e.id≠e.q.par)(n:Nd)(rv:RV):find (q.setN e.q.par n rv).N e.id=some e:=by
 show find (mapE _ q.N) e.id=_;rw[Q1l,he];simp only[J3l,if_neg Ac]
def Q0y(w:World)(id:Int):World:=(w.alloc (.cells #[.int .i64 id] 3)).alloc (.cells #[.int .i64 0,.int .i64 0] 173)
theorem Q2t(w:World)(id:Int):Below w.heap.size w (Q0y w id):=((Below.refl _ _).alloc (J1E _) _).alloc (by simp) _
structure Z9Z(q q1:FO)(e:En Nd)(w w3:World):Prop where
 c0:w3.cell? ⟨q.f,0,none⟩=some (.map (some q.m))
 c1:w3.cell? ⟨q.f,1,none⟩=some (.map (some q.o))
 b0:w3.cell? ⟨w.heap.size,0,none⟩=some (.int .i64 e.id)
 del:∃w5,(Builtin.delete_ #[280,3] 0 #[.map (some q.m),.int .i64 e.id]).run prog w3.drew=.ok (.tuple #[]) w5/\(w5.cell? ⟨q.f,1,none⟩=some (.map (some q.o))/\w5.cell? ⟨e.b,0,none⟩=some (.int .i64 e.q.sp)/\w5.cell? ⟨e.b,1,none⟩=some (.int .i64 e.q.sl)) /\
  ∃w7,(Builtin.delete_ #[281,173] 0 #[.map (some q.o),.agg #[.int .i64 e.q.sp,.int .i64 e.q.sl]]).run prog w5.drew=.ok (.tuple #[]) w7/\(w7.cell? ⟨e.b,0,none⟩=some (.int .i64 e.q.sp)/\w7.cell? ⟨e.b,1,none⟩=some (.int .i64 e.q.sl))/\Cells w7 (w.heap.size+1) 173 [.int .i64 0,.int .i64 0] /\
   ∀u v,Z7P q e w ((w7.setCell ⟨w.heap.size+1,0,none⟩ u).setCell ⟨w.heap.size+1,1,none⟩ v)
theorem Q8N{w w2 w3:World}{q q1:FO}{e:En Nd}(h:Sep w q.hl)(ok:q.Ok)(Ae:Below (Q0y w e.id).heap.size (Q0y w e.id) w2)(st:Step q.hl q1.hl w w3)(DO:find q1.N e.id=some e)(Af:q1.N.Pairwise (fun a b=>a.id≠b.id))(hs:q1.N.Pairwise (fun a b=>(a.q.sp,a.q.sl)≠(b.q.sp,b.q.sl)))(hn:∀e∈q1.N,0<=e.q.sp/\e.q.sp<4294967296/\0<=e.q.sl/\e.q.sl<256)
  (e1:q1.cut e.id=q.dropped e) (e2:q1.kr=q.kr) (f1:q1.f=q.f) (f2:q1.m=q.m) (f3:q1.o=q.o) (Bq:w3.cell? ⟨w.heap.size,0,none⟩=some (.int .i64 e.id)) (Ai:Cells w3 (w.heap.size+1) 173 [.int .i64 0,.int .i64 0]) (Ep:∀b∈keys q1.hl,b∈keys q.hl):Z9Z q q1 e w w3:=by
 have Em:GB<=w.heap.size:=h.env.gb;have A6:=st.sep;obtain⟨w5,r5,s5,Ft⟩:=FO.delSteps A6.drew Af hs hn DO 3 0 173 0;obtain⟨w7,r7,s7⟩:=Ft w5.drew (Below.refl _ _).drew;rw[f2] at r5;rw[f3] at r7;have nd5:Cells w5 e.b 285 (e.q.cells (q1.kr e.id)):=by
  obtain⟨A,B,hN,_,_⟩:=Q4r Af DO;exact s5.sep.cells (by rw[hN];simp[ndH])
 have nd7:Cells w7 e.b 285 (e.q.cells (q1.kr e.id)):=s7.sep.right.cells (by simp[ndH]);have st7:Step q.hl ((q1.cut e.id).hl++ndH q1.kr e) w w7:=st.trans s7.from_drew;rw[e1,e2] at st7;have c1:=FO.c1 A6;have QK:w5.cell? ⟨q1.f,1,none⟩=some (.map (some q1.o)):=(s5.sep.cells (b:=q1.f) (T:=283) (cs:=[.map (some q1.m),.map (some q1.o),.int .i64 q1.next]) (by simp[FO.head])).cell 1 _ rfl;rw[f1,f3] at QK;have NK:=FO.c0 A6;rw[f1,f2] at NK;rw[f1,f3] at c1;refine⟨NK,c1,Bq,w5,r5,⟨QK,nd5.cell 0 _ rfl,nd5.cell 1 _ rfl⟩,w7,r7,⟨nd7.cell 0 _ rfl,nd7.cell 1 _ rfl⟩,Ai.same (s7.from_drew.chg.block _ Ai.lt fun hk=>by have:=h.lt (Ep _ hk);omega),fun u v=>?_⟩
 have DJ:w.heap.size+1∉keys ((q.dropped e).hl++ndH q.kr e):=fun hk=>by
  rw[<- e1,<- e2] at hk;have h1:=((FO.cut_perm Af DO).map Prod.fst).mem_iff.2 hk;have h2:w.heap.size+1∈keys q1.hl:=by
   simpa[FO.hl,keys] using h1
  have:=h.lt (Ep _ h2);omega
 exact(st7.set_aside (J5J _) DJ Em 0 u).set_aside (J5J _) DJ Em 1 v
theorem Z5n{q:FO}(Af:q.N.Pairwise (fun a b=>a.id≠b.id)){id:Int}{c:En Nd}(hf:find q.N id=some c){n:Nd}{g cap:Nat}(CP:q.kr id=some (g,cap))(h1:n.sp=c.q.sp)(h2:n.sl=c.q.sl):∀b∈keys (q.setN id n (some (g,cap))).hl,b∈keys q.hl:=fun b hb=>by
 obtain⟨R,p1,p2⟩:=FO.split Af hf;rw[CP] at p1;have k1:=((p2 n (some (g,cap)) h1 h2).map Prod.fst).mem_iff.1 hb;exact(p1.map Prod.fst).mem_iff.2 (by simpa[rowH] using k1)
theorem Z2s{w:World}{q:FO}(h:Sep w q.hl)(ok:q.Ok){e p:En Nd}(he:find q.N e.id=some e)(hp:find q.N e.q.par=some p) :
  ∃g cap:Nat,∀w2,Below (Q0y w e.id).heap.size (Q0y w e.id) w2->w2.cell? ⟨e.b,2,none⟩=some (.int .i64 e.q.par) /\
   Calls prog 180 #[.pointer (some ⟨q.f,0,none⟩),.int .i64 e.q.par] w2 (fun r w'=>r=.returned (.pointer (some ⟨p.b,0,none⟩))/\w2=w')/\w2.cell? ⟨p.b,3,none⟩=some (.slice (some ⟨g,0,none⟩) p.q.ks.length cap) /\
   Calls prog 240 #[.slice (some ⟨g,0,none⟩) p.q.ks.length cap,.func (.func 241) #[] #[.pointer (some ⟨w.heap.size,0,none⟩)]] w2 fun r w3=>r=.returned (.slice (some ⟨g,0,none⟩) (cutK p.q e.id).ks.length cap)/\w3.frozen? ⟨p.b,3,none⟩=false/\(∃v,w3.cell? ⟨p.b,3,none⟩=some v) /\
    ∃q1,Z9Z q q1 e w (w3.setCell ⟨p.b,3,none⟩ (.slice (some ⟨g,0,none⟩) (cutK p.q e.id).ks.length cap)):=by
 obtain⟨BO,_⟩:=Q0d he;obtain⟨GF,Fy⟩:=Q0d hp;have Ac:e.id≠e.q.par:=by have:=ok.n.rise e BO;omega
 have hB:=Q2t w e.id;have I5:Cells (Q0y w e.id) w.heap.size 3 [.int .i64 e.id]:=(Cells.new w 3 [.int .i64 e.id]).alloc (.cells #[.int .i64 0,.int .i64 0] 173);have Be:(Q0y w e.id).heap.size=w.heap.size+2:=by simp[Q0y]
 have facts:∀w2,Below (Q0y w e.id).heap.size (Q0y w e.id) w2->Below w.heap.size w w2/\w2.cell? ⟨w.heap.size,0,none⟩=some (.int .i64 e.id)/\w.heap.size+2<=w2.heap.size:=fun w2 hb=>⟨hB.trans (hb.mono (by omega)),(I5.same (hb.block _ (by omega))).cell 0 _ rfl,by have:=hb.size;omega⟩
 have DJ:w.heap.size∉keys q.hl:=fun hk=>by have:=h.lt hk;omega
 obtain⟨g,cap,CP,_⟩:=FO.cutRow (w:=Q0y w e.id) (h.grown hB).sep ok he hp (b:=w.heap.size) (I5.cell 0 _ rfl) DJ (by omega);refine⟨g,cap,fun w2 hb=>?_⟩;obtain⟨Aj,Bq,J9⟩:=facts w2 hb;have s2:=(h.grown Aj).sep;have c3:=(FO.nd0 s2 hp).2.2.2;rw[Fy,CP] at c3;refine⟨(FO.nd0 s2 he).2.2.1,Q3f s2 hp,c3,?_⟩;obtain⟨g',CG,Me,AY⟩:=FO.cutRow s2 ok he hp Bq DJ (by omega);rw[CP] at Me;cases Me;refine AY.mono ?_;rintro r w3⟨rfl,An,C8,B5,st⟩;obtain⟨e1,e2⟩:=Z7Q ok (e:=e) hp CP;refine⟨rfl,C8,B5,q.setN e.q.par (cutK p.q e.id) (some (g,cap)),?_⟩;refine Q8N h ok hb ((h.grown Aj).trans st) (Z5m he Ac _ _) (Q1K (fun _ _ h=>h) ok.n.ids) ?_ ?_ e1 e2 rfl rfl rfl ?_ ?_ (Z5n ok.n.ids hp CP rfl rfl)
 ·show(mapE _ q.N).Pairwise _;unfold mapE;refine J2h.2 (J5e ?_ ok.n.spots);intro a b ha hb EI;have sp:∀c∈q.N,(if c.id=e.q.par then cutK p.q e.id else c.q).sp=c.q.sp/\(if c.id=e.q.par then cutK p.q e.id else c.q).sl=c.q.sl:=fun c hc=>by
   split
   ·rename_i ER;rw[Q8K ok.n.ids hc ER hp];exact⟨rfl,rfl⟩
   ·exact⟨rfl,rfl⟩
  simp only[(sp a ha).1,(sp a ha).2,(sp b hb).1,(sp b hb).2];exact EI
 ·intro d hd;obtain⟨c,hc,rfl⟩:=Q1r (show d∈mapE _ q.N from hd);have:=ok.n.sm c hc;simp only;split
  ·rename_i ER;rw[Q8K ok.n.ids hc ER hp] at this;exact this
  ·exact this
 ·have Ac:w.heap.size≠p.b:=fun hx=>DJ (by
   have:p.b∈keys q.hl:=by
    obtain⟨A,B,hN,_,_⟩:=Q4r ok.n.ids hp;simp only[FO.hl,keys,J1H,List.map_flatMap];refine J5K _ (J5K _ (J5K _ (J2c.2 ⟨p,GF,?_⟩)));simp[ndH]
   rw[hx];exact this)
  exact(World.cell?_of_block (Below.heap_setCell _ _ _ _ (by simpa using Ac))).trans An
 ·have Bi:Cells (Q0y w e.id) (w.heap.size+1) 173 [.int .i64 0,.int .i64 0]:=by
   have:=Cells.new (w.alloc (.cells #[.int .i64 e.id] 3)) 173 [.int .i64 0,.int .i64 0];rw[show(w.alloc (.cells #[.int .i64 e.id] 3)).heap.size=w.heap.size+1 by simp] at this;exact this
  have LH:=Bi.same (hb.block _ (by omega));exact LH.same (st.chg.block _ LH.lt fun hk=>by have:=h.lt hk;omega)
theorem Z5o{w:World}{q:FO}(h:Sep w q.hl)(ok:q.Ok){e p:En Nd}(he:find q.N e.id=some e)(hp:find q.N e.q.par=some p) :
  Calls prog 216 #[.pointer (some ⟨q.f,0,none⟩),.int .i64 e.id] w fun r w'=>(∃v,r=.returned v)/\Z7P q e w w':=by
 have hb:=Q2t w e.id;have I5:=(Cells.new w 3 [.int .i64 e.id]).alloc (.cells #[.int .i64 0,.int .i64 0] 173);have b0:=I5.cell 0 _ rfl;have FC:=(h.grown hb).sep;have c0:=FO.c0 FC;have hl:=FO.look_some FC he;have QP:(Q0y w e.id).drew.cell? ⟨q.f,0,none⟩=some (.map (some q.m)):=c0;have b0d:(Q0y w e.id).drew.cell? ⟨w.heap.size,0,none⟩=some (.int .i64 e.id):=b0;have Py:=FO.look_some FC.drew he;obtain⟨g,cap,Cw⟩:=Z2s h ok he hp;obtain⟨k2,Fz,k3,M5⟩:=Cw _ (Below.refl _ _).drew;have GE:=Q0a M5;unfold Q0y at *
 clear h ok he hp hb FC I5 Cw M5;go_enter func216,ntmps216;go_wp2_with fail;go_region;go_wp2_with fail;refine Fz.mono ?_;rintro r w'⟨rfl,rfl⟩;go_wp2_with fail;refine GE.out.mono ?_;rintro r w3⟨rfl,C8,⟨v,B5⟩,q1,hE⟩;obtain⟨O7,Vi,b0e,w5,r5,⟨Pt,e05,e15⟩,w7,r7,⟨e07,e17⟩,Ai,hz⟩:=hE;have HZ:=Q0a hz;generalize (cutK p.q e.id).ks.length=kl at *
 have PD:(w3.setCell ⟨p.b,3,none⟩ (.slice (some ⟨g,0,none⟩) kl cap)).drew.cell? ⟨q.f,0,none⟩=some (.map (some q.m)):=O7;have b0e':(w3.setCell ⟨p.b,3,none⟩ (.slice (some ⟨g,0,none⟩) kl cap)).drew.cell? ⟨w.heap.size,0,none⟩=some (.int .i64 e.id):=b0e;have PE:w5.drew.cell? ⟨q.f,1,none⟩=some (.map (some q.o)):=Pt;have e05':w5.drew.cell? ⟨e.b,0,none⟩=some (.int .i64 e.q.sp):=e05;have e15':w5.drew.cell? ⟨e.b,1,none⟩=some (.int .i64 e.q.sl):=e15;clear hz GE Fz hl Py c0 QP b0 b0d k2 k3;go_wp2_with fail;go_region;go_wp2_with fail;go_region;have g0:=Ai.cell 0 _ rfl;have g1:=Ai.cell 1 _ rfl
 have gf0:=Ai.free 0;have gf1:=Ai.free 1;have glt:=Ai.lt;clear Ai;go_wp2_with fail;refine bodyPost_ret (v:=.agg #[.int .i64 e.q.sp,.int .i64 e.q.sl]) (by simp[results,results216,go_sem,g0,g1]) rfl ⟨⟨_,rfl⟩,HZ.out _ _⟩
theorem Z2t{w:World}{q:FO}(h:Sep w q.hl)(ok:q.Ok){e:En Nd}(he:find q.N e.id=some e)(hp:find q.N e.q.par=none) :
  Calls prog 216 #[.pointer (some ⟨q.f,0,none⟩),.int .i64 e.id] w fun r w'=>(∃v,r=.returned v)/\Z7P q e w w':=by
 have hb:=Q2t w e.id;have I5:=(Cells.new w 3 [.int .i64 e.id]).alloc (.cells #[.int .i64 0,.int .i64 0] 173);have b0:=I5.cell 0 _ rfl;have FC:=(h.grown hb).sep;have c0:=FO.c0 FC;have hl:=FO.look_some FC he;have QP:(Q0y w e.id).drew.cell? ⟨q.f,0,none⟩=some (.map (some q.m)):=c0;have b0d:(Q0y w e.id).drew.cell? ⟨w.heap.size,0,none⟩=some (.int .i64 e.id):=b0;have Py:=FO.look_some FC.drew he;have Fz:=Q5i FC.drew hp;have k2:=(FO.nd0 FC.drew he).2.2.1;have Bi:Cells (Q0y w e.id) (w.heap.size+1) 173 [.int .i64 0,.int .i64 0]:=by
  have:=Cells.new (w.alloc (.cells #[.int .i64 e.id] 3)) 173 [.int .i64 0,.int .i64 0];rw[show(w.alloc (.cells #[.int .i64 e.id] 3)).heap.size=w.heap.size+1 by simp] at this;exact this
 have Aw:∀c∈q.N,c.id≠e.q.par:=fun c hc hx=>by
  have:=Q0r ok.n.ids hc;rw[hx,hp] at this;cases this
 have e1:q.cut e.id=q.dropped e:=by
  unfold FO.cut FO.dropped;rw[Z5h Aw]
 have hE:Z9Z q q e w (Q0y w e.id).drew:=Q8N h ok ((Below.refl _ _).drew) ((h.grown hb).drew) he ok.n.ids ok.n.spots (fun c hc=>ok.n.sm c hc) e1 rfl rfl rfl rfl b0d Bi (fun _ h=>h);obtain⟨O7,Vi,b0e,w5,r5,⟨Pt,e05,e15⟩,w7,r7,⟨e07,e17⟩,Ai,hz⟩:=hE;have HZ:=Q0a hz;have PD:(Q0y w e.id).drew.drew.cell? ⟨q.f,0,none⟩=some (.map (some q.m)):=O7;have b0e':(Q0y w e.id).drew.drew.cell? ⟨w.heap.size,0,none⟩=some (.int .i64 e.id):=b0e;have PE:w5.drew.cell? ⟨q.f,1,none⟩=some (.map (some q.o)):=Pt;have e05':w5.drew.cell? ⟨e.b,0,none⟩=some (.int .i64 e.q.sp):=e05;have e15':w5.drew.cell? ⟨e.b,1,none⟩=some (.int .i64 e.q.sl):=e15
 have g0:=Ai.cell 0 _ rfl;have g1:=Ai.cell 1 _ rfl;have gf0:=Ai.free 0;have gf1:=Ai.free 1;have glt:=Ai.lt;clear h ok he hp hb FC I5 Bi Aw e1 hz Ai;unfold Q0y at *
 go_enter func216,ntmps216;go_wp2_with fail;go_region;go_wp2_with fail;refine Fz.mono ?_;rintro r w'⟨rfl,rfl⟩;clear Fz hl Py c0 b0 k2;go_wp2_with fail;go_region;go_wp2_with fail;go_region;go_wp2_with fail;refine bodyPost_ret (v:=.agg #[.int .i64 e.q.sp,.int .i64 e.q.sl]) (by simp[results,results216,go_sem,g0,g1]) rfl ⟨⟨_,rfl⟩,HZ.out _ _⟩
theorem Z5p{w:World}{q:FO}(h:Sep w q.hl)(ok:q.Ok){e:En Nd}(he:find q.N e.id=some e) :
  Calls prog 216 #[.pointer (some ⟨q.f,0,none⟩),.int .i64 e.id] w fun r w'=>(∃v,r=.returned v)/\Z7P q e w w':=by
 cases hp:find q.N e.q.par with
 | none=>exact Z2t h ok he hp
 | some p=>exact Z5o h ok he hp
def J0Z(q:FO)(e:En Nd)(w w':World):Prop:=∃F':FO,F'.f=q.f/\F'.N=Q0E q.N e e.q.ks.length/\F'.next=q.next/\F'.Ok/\Step q.hl F'.hl w w'
theorem Z5q{w w':World}{q F:FO}{e:En Nd}(ok:q.Ok)(he:find q.N e.id=some e)(L:Z2r q e e.q.ks.length F)(st:Step q.hl (F.hl++ndH q.kr e) w w'):J0Z q e w w':=by
 refine⟨F,L.f,L.N,L.next,⟨by rw[L.N,L.next];exact ok.n.lift he,by rw[L.next];exact ok.lim,L.rv,?_⟩,st.drop (J2n _ _)⟩;rw[L.N];unfold Q0E mapE;rw[J3g];exact J1F (Q3A q.N e.id).length_le ok.few
theorem Z2u{q:FO}(ok:q.Ok)(e:En Nd):Z2r q e 0 (q.dropped e):=⟨rfl,rfl,rfl,rfl,rfl,fun c hc=>by
 obtain⟨d,hd,rfl⟩:=Q1r (show c∈mapE _ (rem q.N e.id) from hc);have h0:=ok.rv d (Q7p hd);show rvOk (q.kr d.id) (Q0s e 0 d).ks.length;have GZ:(Q0s e 0 d).ks.length<=d.q.ks.length:=by
  unfold Q0s;simp only[J4X,J3D];split
  ·exact J3M _ _
  ·exact J1E _
 cases hk:q.kr d.id with
 | none =>
  rw[hk] at h0;have Dk:d.q.ks.length=0:=h0;show(Q0s e 0 d).ks.length=0;omega
 | some gc =>
  rw[hk] at h0;obtain⟨g,cap⟩:=gc;have Dk:d.q.ks.length<=cap/\cap<=maxLen:=h0;exact⟨by omega,Dk.2⟩⟩
theorem Q8O{w:World}{q:FO}(h:Sep w q.hl)(ok:q.Ok){e:En Nd}(he:find q.N e.id=some e) :
  Calls prog 174 #[.pointer (some ⟨q.f,0,none⟩),.int .i64 e.id] w fun r w'=>(∃v,r=.returned v)/\J0Z q e w w':=by
 have ka:=Q3f h he;obtain⟨BO,_⟩:=Q0d he;have kd:=Z5p h ok he;have Qq:=ok.n.kids_few BO;have Cm:=ok.few;have HD:=Q0a kd;have EK:=Q0a ok;have HE:=Q0a he;have Ab:e.q.ks.length<=65536:=by omega
 clear kd h ok he BO;go_enter func174,ntmps174;go_wp2_with fail;refine ka.mono ?_;rintro r w1⟨rfl,rfl⟩;go_wp2_with fail;refine HD.out.mono ?_;rintro r w1⟨⟨v,rfl⟩,st⟩;have A3:Cells w1 e.b 285 (e.q.cells (q.kr e.id)):=st.sep.right.cells (by simp[ndH]);have c3:=A3.cell 3 _ rfl;have CZ:=Q0a st;have So:=Q0a (rfl:e.q.ks.length=e.q.ks.length);have J6:∃(a:Option Addr) (cap:Nat),lvOf (q.kr e.id) e.q.ks.length=.slice a e.q.ks.length cap/\(∀g c,q.kr e.id=some (g,c)->a=some ⟨g,0,none⟩)/\(q.kr e.id=none->e.q.ks.length=0):=by
  have AC:=EK.out.rv e (Q0d HE.out).1;cases CP:q.kr e.id with
  | none =>
   rw[CP] at AC;have Cn:e.q.ks.length=0:=AC;exact⟨none,0,by rw[Cn];rfl,fun _ _ h=>by(cases h),fun _=>Cn⟩
  | some gc=>exact⟨some ⟨gc.1,0,none⟩,gc.2,rfl,fun g c h=>by cases h;rfl,fun h=>by cases h⟩
 obtain⟨a0,cap,NV,Jd,Bn⟩:=J6;rw[NV] at c3;have MG:=Q0a Jd;have G2:=Q0a Bn;have EH:=Q0a Ab;clear st ka HD A3 NV Jd Bn Qq Cm;go_wp2_with fail
 go_loopg [26] e.q.ks.length (fun gk iv wr=>∃(j:Nat) (F:FO),iv=.int .i64 j/\j+gk=e.q.ks.length/\Z2r q e j F/\Step q.hl (F.hl++ndH q.kr e) w wr)
 case atStart=>exact⟨0,q.dropped e,rfl,by omega,Z2u EK.out e,CZ.out⟩
 case round =>
  obtain⟨j,F,rfl,E7,hL,st⟩:=hrel;have HL:=Q0a hL;have Jh:=Q0a E7;have HS:=Q0a st;by_cases hj:j<e.q.ks.length
  ·obtain⟨k,hk⟩:∃k,e.q.ks[j]?=some k:=⟨e.q.ks[j],J3O hj⟩
   have Bc:∃g,a0=some ⟨g,0,none⟩/\wr.cell? ⟨g,j,none⟩=some (.int .i64 k):=by
    cases CP:q.kr e.id with
    | none=>have:=G2.out CP;omega
    | some gc =>
     have hr:=st.sep.right.tail;rw[CP] at hr;exact⟨gc.1,MG.out gc.1 gc.2 CP,Q0x hr j _ (by rw[J3i,hk];rfl)⟩
   obtain⟨g,rfl,DQ⟩:=Bc;obtain⟨c,FY,⟨f0,e2,C8,v,B5⟩,Ns,ee2,Dy⟩:=Q6W EK.out HE.out hL st.sep hk;obtain⟨c',HJ,⟨f0',e2',PG,v',Qr⟩,Pi,ee2',-⟩:=Q6W EK.out HE.out hL st.sep.drew hk;rw[FY] at HJ;obtain rfl:c=c':=J2u HJ;have M0:F.f=q.f:=hL.f;rw[M0] at f0 f0';have hW:=Dy _ (Below.refl _ _).drew;rw[M0] at hW;have ee2d:(wr.setCell ⟨c.b,2,none⟩ (.int .i64 e.q.par)).drew.cell? ⟨e.b,2,none⟩=some (.int .i64 e.q.par):=ee2;by_cases Bu:find q.N e.q.par=none
   ·obtain⟨Fz,F',L',st'⟩:=hW.1 Bu;have Ow:=Q0a L';have O2:=Q0a (st.trans st');have MR:(j:Int)<(e.q.ks.length:Int):=by omega
    have Gc:(0:Int)<=(j:Int):=by omega
    have R5:(j:Int)<65536:=by have:=EH.out;omega
    generalize e.q.ks.length=n at *
    clear Dy hW FY HJ L' st' hL st hk E7 Ab G2;go_wp2_with fail;go_region;go_wp2_with fail;refine Fz.mono ?_;rintro r w'⟨rfl,rfl⟩;go_wp2_with fail;go_roundg (n-(j+1))
    case measure=>have:=Jh.out;omega
    case rel=>exact⟨j+1,F',by go_num,by have:=Jh.out;omega,Ow.out,O2.out⟩
   ·obtain⟨pb,V,Fz,RN,⟨ua,un,uc,rfl⟩,V',w',rap,⟨va,vn,vc,rfl⟩,Qn,pfr,F',L',st'⟩:=hW.2 Bu;have Ow:=Q0a L';have O2:=Q0a (st.trans st');have MR:(j:Int)<(e.q.ks.length:Int):=by omega
    have Gc:(0:Int)<=(j:Int):=by omega
    have R5:(j:Int)<65536:=by have:=EH.out;omega
    have VU:((wr.setCell ⟨c.b,2,none⟩ (.int .i64 e.q.par)).drew.alloc (.cells #[.int .i64 k] 3)).cell? ⟨pb,3,none⟩=some (.slice ua un uc):=(World.cell?_of_block (Below.heap_alloc _ _ _ (World.block_lt_of_cell? _ ⟨pb,3,none⟩ RN))).trans RN;have pf3:=pfr 3;generalize e.q.ks.length=n at *
    clear Dy hW FY HJ L' st' hL st hk E7 Ab G2 pfr;go_wp2_with fail;go_region;go_wp2_with fail;refine Fz.mono ?_;rintro r w'⟨rfl,rfl⟩;generalize hW0:(wr.setCell ⟨c.b,2,none⟩ (.int .i64 e.q.par)).drew=W0 at *
    clear f0 e2 C8 B5 Ns ee2 f0' e2' PG Qr Pi ee2' ee2d DQ Fz hW0;go_wp2_with (at_builtin;refine Lib.wpList_append_run _ rfl _ _ _ _ rfl _ _ rfl rfl _ _ rap ?_);go_roundg (n-(j+1))
    case measure=>have:=Jh.out;omega
    case rel=>exact⟨j+1,F',by go_num,by have:=Jh.out;omega,Ow.out,O2.out⟩
  ·obtain rfl:j=e.q.ks.length:=by omega
   have HR:=Q0a (Z5q EK.out HE.out hL st);generalize e.q.ks.length=n at *
   clear hL st Ab;go_wp2_with fail
   (try go_ret);exact⟨⟨_,rfl⟩,HR.out⟩
end Go.Proofs.YtfidemmgofcnmaaGreatDoor
