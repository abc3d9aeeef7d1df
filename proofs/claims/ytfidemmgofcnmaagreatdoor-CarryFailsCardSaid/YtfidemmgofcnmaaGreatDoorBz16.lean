/- What the laws of spaces share is proved. No condition. Part of a proof. -/
import Derived.Test.YtfidemmgofcnmaaGreatDoorBz15
set_option maxHeartbeats 4000000
set_option linter.unusedVariables false
namespace Go.Proofs.YtfidemmgofcnmaaGreatDoor
open Go.RowKit Go.Proofs.Tryz
theorem Z8Y{w:World}{H:HL}{rv:RV}{l:List Int}(h:Sep w (rowH rv 3 1 (l.map encI)++H))(B9:rvOk rv l.length)(hl:l.length<=65536)(x:Int)(ty:TypeId) :
  ∃rv' w',(Builtin.append_ #[38,38] ty #[lvOf rv l.length,.slice (some ⟨w.heap.size,0,none⟩) 1 1]).run prog (w.alloc (.cells #[.int .i64 x] 3))=.ok (lvOf rv' (l.length+1)) w'/\rvOk rv' (l.length+1)/\Step (rowH rv 3 1 (l.map encI)++H) (rowH rv' 3 1 ((l++[x]).map encI)++H) w w':=by
 obtain⟨i0,hi,Bu,AT,Bk⟩:=info_parts Z0B;have ha:=h.alloc (.cells #[.int .i64 x] 3);have An:=Q3X ha.left B9 (by rw[J4K,J4h]);obtain⟨v',w',hr,q1,q2,_,q4⟩:=run_append_own_at (P:=prog) (w.alloc (.cells #[.int .i64 x] 3)) 0 38 ty 3 i0 (.int .i64 0) 1 8 underlying38 hi Bu AT Bk rfl (by decide) (lvOf rv l.length) l.length (l.map encI) An ⟨w.heap.size,0,none⟩ 1 1 [.int .i64 x] rfl (by
  intro j u hj;have:=(Cells.new w 3 [.int .i64 x]).cell j u hj;have e:(⟨w.heap.size,0,none⟩:Addr).add j=⟨w.heap.size,j,none⟩:=by unfold Addr.add;split <;> simp_all
  rw[e];exact this) (fun u hu=>by rw[J5i.1 hu];rfl) (by unfold maxLen;omega) (by omega) (J5d _)
 obtain⟨rv',rfl,e2,e3⟩:=Q1h (A:=[]) (B:=H) (by simpa using ha) q1 q2 q4;refine⟨rv',w',hr,e2,?_⟩;rw[J6E];have e4:Step (rowH rv 3 1 (l.map encI)++H) (rowH rv' 3 1 (l.map encI++[encI x])++H) (w.alloc (.cells #[.int .i64 x] 3)) w':=by simpa using e3
 exact e4.from_alloc
theorem FO.pushK{w:World}{q:FO}(h:Sep w q.hl)(Ai:q.N.Pairwise (fun a b=>a.id≠b.id)){id:Int}{e:En Nd}(hf:find q.N id=some e)(AA:rvOk (q.kr id) e.q.ks.length)(hl:e.q.ks.length<=65536)(x:Int)(ty:TypeId) :
  ∃rv' w',(Builtin.append_ #[38,38] ty #[lvOf (q.kr id) e.q.ks.length,.slice (some ⟨w.heap.size,0,none⟩) 1 1]).run prog (w.alloc (.cells #[.int .i64 x] 3))=.ok (lvOf rv' (e.q.ks.length+1)) w'/\rvOk rv' (e.q.ks.length+1) /\
   w'.cell? ⟨e.b,3,none⟩=some (lvOf (q.kr id) e.q.ks.length)/\(∀i,w'.frozen? ⟨e.b,i,none⟩=false)/\Step q.hl (q.setN id {e.q with ks:=e.q.ks++[x]} rv').hl w (w'.setCell ⟨e.b,3,none⟩ (lvOf rv' (e.q.ks.length+1))):=by
 obtain⟨R,p1,p2⟩:=FO.split Ai hf;have pm:∀(Z:HL) (a:Nat×(Obj->Prop)),((a::Z)++R).Perm (Z++(a::R)):=fun Z a=>J6F.symm
 have h':Sep w (rowH (q.kr id) 3 1 (e.q.ks.map encI)++((e.b,isC 285 (e.q.cells (q.kr id)))::R)):=h.perm (p1.trans (pm _ _));obtain⟨rv',w',r1,r2,st⟩:=Z8Y h' AA hl x ty;have hc:=st.sep.cells (b:=e.b) (T:=285) (cs:=e.q.cells (q.kr id)) (by simp);have s2:=Sep.set (A:=rowH rv' 3 1 ((e.q.ks++[x]).map encI)) (B:=R) st.sep 3 (lvOf rv' (e.q.ks.length+1));refine⟨rv',w',r1,r2,hc.cell 3 _ rfl,hc.free,(st.trans s2).perm ((p1.trans (pm _ _)).symm) ?_⟩;have Bi:(e.q.cells (q.kr id)).set 3 (lvOf rv' (e.q.ks.length+1))=Nd.cells {e.q with ks:=e.q.ks++[x]} rv':=by
  unfold Nd.cells;simp
 rw[Bi];exact((p2 {e.q with ks:=e.q.ks++[x]} rv' rfl rfl).trans (pm _ _)).symm
theorem NOk.kids_few{N:List (En Nd)}{next:Int}(ok:NOk N next){e:En Nd}(he:e∈N):e.q.ks.length<=N.length:=by
 have:=J7m (ok.nd e he) (l₂:=N.map En.id) (fun k hk=>by
  obtain⟨c,hc,_⟩:=ok.kids e he k hk;obtain⟨c1,c2⟩:=Q0d hc;exact J3n.2 ⟨c,c1,c2⟩)
 rwa [J4K] at this
theorem Z6o{w:World}{q:FO}(h:Sep w q.hl)(ok:q.Ok){sp sl:Int}(hp:Q1D prog 173 (sp,sl))(Aw:ownN q.N sp sl=0) :
  Calls prog 105 #[.pointer (some ⟨q.f,0,none⟩),.int .i64 0,.int .i64 sp,.int .i64 sl] w fun r w'=>r=.returned (.tuple #[.int .i64 (q.next+1),.int .i64 0])/\Step q.hl (q.app (w.heap.size+1) ⟨sp,sl,0,[]⟩).hl w w':=by
 have ka:=Q5q h ok.n.zero;have h0:=(h.alloc (.cells #[.int .i64 sp,.int .i64 sl] 173)).drew;have hl:=FO.look_own h0 ok hp;rw[Aw] at hl;have c0:=FO.c0 h;have c1:=FO.c1 h;have c2:=FO.c2 h;have d0:=FO.c0 h0;have d1:=FO.c1 h0;have d2:=FO.c2 h0;have hb:=Cells.new w 173 [.int .i64 sp,.int .i64 sl];obtain⟨w3,w4,r3,r4,st,f0,f1,f2,g0,g2,n0,n2,keep⟩:=FO.appSteps (par:=0) h0 ok hp Aw _ _ rfl rfl;have Br:(w.alloc (.cells #[.int .i64 sp,.int .i64 sl] 173)).drew.heap.size=w.heap.size+1:=by simp[World.drew]
 have Ed:w.heap.size∉keys q.hl:=fun hk=>by have:=h.lt hk;omega
 have b0:(w.alloc (.cells #[.int .i64 sp,.int .i64 sl] 173)).drew.cell? ⟨w.heap.size,0,none⟩=some (.int .i64 sp):=hb.cell 0 _ rfl;have b1:(w.alloc (.cells #[.int .i64 sp,.int .i64 sl] 173)).drew.cell? ⟨w.heap.size,1,none⟩=some (.int .i64 sl):=hb.cell 1 _ rfl;have e0:=keep w.heap.size 0 _ Ed (by omega) b0;have e1:=keep w.heap.size 1 _ Ed (by omega) b1;rw[Br] at r3 st;have HS:Hid (Step q.hl (q.app (w.heap.size+1) ⟨sp,sl,0,[]⟩).hl w w4):=st.from_drew.from_alloc;have A8:∀i,(w.alloc (.cells #[.int .i64 sp,.int .i64 sl] 173)).drew.frozen? ⟨q.f,i,none⟩=false:=(FO.c h0).free;have Bs:q.next+1<1099511627777:=by have:=ok.lim;omega
 have N5:=ok.n.next0;have f2':=FO.c2 st.sep;have f2'':w4.cell? ⟨q.f,2,none⟩=some (.int .i64 (q.next+1)):=f2';obtain⟨e00,_⟩:=e0;obtain⟨e10,_⟩:=e1;have x0:(w.alloc (.cells #[.int .i64 sp,.int .i64 sl] 173)).cell? ⟨q.f,0,none⟩=some (.map (some q.m)):=d0;have x1:(w.alloc (.cells #[.int .i64 sp,.int .i64 sl] 173)).cell? ⟨q.f,1,none⟩=some (.map (some q.o)):=d1;have x2:(w.alloc (.cells #[.int .i64 sp,.int .i64 sl] 173)).cell? ⟨q.f,2,none⟩=some (.int .i64 q.next):=d2;have xb0:(w.alloc (.cells #[.int .i64 sp,.int .i64 sl] 173)).cell? ⟨w.heap.size,0,none⟩=some (.int .i64 sp):=b0;have xb1:(w.alloc (.cells #[.int .i64 sp,.int .i64 sl] 173)).cell? ⟨w.heap.size,1,none⟩=some (.int .i64 sl):=b1
 have xf:∀i,(w.alloc (.cells #[.int .i64 sp,.int .i64 sl] 173)).frozen? ⟨q.f,i,none⟩=false:=A8;have y0:((w.alloc (.cells #[.int .i64 sp,.int .i64 sl] 173)).setCell ⟨q.f,2,none⟩ (.int .i64 (q.next+1))).cell? ⟨q.f,0,none⟩=some (.map (some q.m)):=g0;have y2:((w.alloc (.cells #[.int .i64 sp,.int .i64 sl] 173)).setCell ⟨q.f,2,none⟩ (.int .i64 (q.next+1))).cell? ⟨q.f,2,none⟩=some (.int .i64 (q.next+1)):=g2;have z0:(((w.alloc (.cells #[.int .i64 sp,.int .i64 sl] 173)).setCell ⟨q.f,2,none⟩ (.int .i64 (q.next+1))).alloc (.cells #[.int .i64 sp,.int .i64 sl,.int .i64 0,.slice none 0 0] 285)).cell? ⟨q.f,0,none⟩=some (.map (some q.m)):=n0
 have z2:(((w.alloc (.cells #[.int .i64 sp,.int .i64 sl] 173)).setCell ⟨q.f,2,none⟩ (.int .i64 (q.next+1))).alloc (.cells #[.int .i64 sp,.int .i64 sl,.int .i64 0,.slice none 0 0] 285)).cell? ⟨q.f,2,none⟩=some (.int .i64 (q.next+1)):=n2;have r3x:(Instr.mapUpdate 280 (.map (some q.m)) (.int .i64 (q.next+1)) (.pointer (some ⟨w.heap.size+1,0,none⟩))).run prog (((w.alloc (.cells #[.int .i64 sp,.int .i64 sl] 173)).setCell ⟨q.f,2,none⟩ (.int .i64 (q.next+1))).alloc (.cells #[.int .i64 sp,.int .i64 sl,.int .i64 0,.slice none 0 0] 285)).drew.drew=.ok () w3:=r3;clear r3 g0 g2 n0 n2 b0 b1 d0 d1 d2 A8;clear keep st f2' h0 hb h ok hp Aw Ed
 go_enter func105,ntmps105;go_wp2_with fail;refine ka.mono ?_;rintro e w'⟨rfl,rfl⟩;go_wp2_with fail;go_region;go_wp2_with fail;go_region;go_wp2_with fail;go_region;go_wp2_with fail
 (try go_ret2);exact⟨rfl,HS.out⟩
theorem Z8Z{w:World}{q:FO}(h:Sep w q.hl)(ok:q.Ok){par:Int}{e:En Nd}(hf:find q.N par=some e){sp sl:Int}(hp:Q1D prog 173 (sp,sl))(Aw:ownN q.N sp sl=0) :
  Calls prog 105 #[.pointer (some ⟨q.f,0,none⟩),.int .i64 par,.int .i64 sp,.int .i64 sl] w fun r w'=>r=.returned (.tuple #[.int .i64 (q.next+1),.int .i64 0])/\∃rv',rvOk rv' (e.q.ks.length+1)/\Step q.hl ((q.app (w.heap.size+1) ⟨sp,sl,par,[]⟩).setN par {e.q with ks:=e.q.ks++[q.next+1]} rv').hl w w':=by
 have ka:=Q3r h hf;have h0:=(h.alloc (.cells #[.int .i64 sp,.int .i64 sl] 173)).drew;have hl:=FO.look_own h0 ok hp;rw[Aw] at hl;have c0:=FO.c0 h;have c1:=FO.c1 h;have c2:=FO.c2 h;have d0:=FO.c0 h0;have d1:=FO.c1 h0;have d2:=FO.c2 h0;have hb:=Cells.new w 173 [.int .i64 sp,.int .i64 sl];obtain⟨w3,w4,r3,r4,st,f0,f1,f2,g0,g2,n0,n2,keep⟩:=FO.appSteps (par:=par) h0 ok hp Aw _ _ rfl rfl;have Br:(w.alloc (.cells #[.int .i64 sp,.int .i64 sl] 173)).drew.heap.size=w.heap.size+1:=by simp[World.drew]
 have Ed:w.heap.size∉keys q.hl:=fun hk=>by have:=h.lt hk;omega
 have b0:(w.alloc (.cells #[.int .i64 sp,.int .i64 sl] 173)).drew.cell? ⟨w.heap.size,0,none⟩=some (.int .i64 sp):=hb.cell 0 _ rfl;have b1:(w.alloc (.cells #[.int .i64 sp,.int .i64 sl] 173)).drew.cell? ⟨w.heap.size,1,none⟩=some (.int .i64 sl):=hb.cell 1 _ rfl;have e0:=keep w.heap.size 0 _ Ed (by omega) b0;have e1:=keep w.heap.size 1 _ Ed (by omega) b1;rw[Br] at r3 st;obtain⟨BT,Fx⟩:=Q0d hf;have JR:=ok.n.rng e BT;have Fs:find (q.app (w.heap.size+1) ⟨sp,sl,par,[]⟩).N par=some e:=by
  show find (q.N++[_]) par=_;rw[Q8c,hf];rfl
 have C9:(q.app (w.heap.size+1) ⟨sp,sl,par,[]⟩).N.Pairwise (fun a b=>a.id≠b.id):=by
  show(q.N++[_]).Pairwise _;rw[J3P];refine⟨ok.n.ids,by simp,fun x hx y hy=>?_⟩;rw[J5i] at hy;subst hy;have:=ok.n.rng x hx;show x.id≠q.next+1;omega
 have Dj:(q.app (w.heap.size+1) ⟨sp,sl,par,[]⟩).kr par=q.kr par:=if_neg (by omega);have AA:=ok.rv e BT;rw[Fx] at AA;have Cy:=ok.n.kids_few BT;have Ie:=ok.few;obtain⟨rv',w5,r5,Cr,k3,kf,st5⟩:=FO.pushK st.sep.drew C9 Fs (by rw[Dj];exact AA) (by omega) (q.next+1) 38;rw[Dj] at r5 k3;have r5x:(Builtin.append_ #[38,38] 38 #[lvOf (q.kr par) e.q.ks.length,.slice (some ⟨w4.heap.size,0,none⟩) 1 1]).run prog (w4.alloc (.cells #[.int .i64 (q.next+1)] 3)).drew=.ok (lvOf rv' (e.q.ks.length+1)) w5:=r5;clear r5;have m3:=(FO.nd st.sep Fs).cell 3 (lvOf ((q.app (w.heap.size+1) ⟨sp,sl,par,[]⟩).kr e.id) e.q.ks.length) rfl
 rw[Fx,Dj] at m3;have m2:w4.cell? ⟨q.f,2,none⟩=some (.int .i64 (q.next+1)):=FO.c2 st.sep;have sa:=st.sep.alloc (.cells #[.int .i64 (q.next+1)] 3);have v3:=(FO.nd sa Fs).cell 3 (lvOf ((q.app (w.heap.size+1) ⟨sp,sl,par,[]⟩).kr e.id) e.q.ks.length) rfl;rw[Fx,Dj] at v3;have v2:(w4.alloc (.cells #[.int .i64 (q.next+1)] 3)).cell? ⟨q.f,2,none⟩=some (.int .i64 (q.next+1)):=FO.c2 sa;have u2:(w5.setCell ⟨e.b,3,none⟩ (lvOf rv' (e.q.ks.length+1))).cell? ⟨q.f,2,none⟩=some (.int .i64 (q.next+1)):=FO.c2 st5.sep;have HS:Hid (∃rz,rvOk rz (e.q.ks.length+1)/\Step q.hl ((q.app (w.heap.size+1) ⟨sp,sl,par,[]⟩).setN par {e.q with ks:=e.q.ks++[q.next+1]} rz).hl w (w5.setCell ⟨e.b,3,none⟩ (lvOf rv' (e.q.ks.length+1)))):=⟨rv',Cr,(st.trans st5.from_drew).from_drew.from_alloc⟩
 have A8:∀i,(w.alloc (.cells #[.int .i64 sp,.int .i64 sl] 173)).drew.frozen? ⟨q.f,i,none⟩=false:=(FO.c h0).free;have Bs:q.next+1<1099511627777:=by have:=ok.lim;omega
 have N5:=ok.n.next0;obtain⟨e00,_⟩:=e0;obtain⟨e10,_⟩:=e1;have x0:(w.alloc (.cells #[.int .i64 sp,.int .i64 sl] 173)).cell? ⟨q.f,0,none⟩=some (.map (some q.m)):=d0;have x1:(w.alloc (.cells #[.int .i64 sp,.int .i64 sl] 173)).cell? ⟨q.f,1,none⟩=some (.map (some q.o)):=d1;have x2:(w.alloc (.cells #[.int .i64 sp,.int .i64 sl] 173)).cell? ⟨q.f,2,none⟩=some (.int .i64 q.next):=d2;have xb0:(w.alloc (.cells #[.int .i64 sp,.int .i64 sl] 173)).cell? ⟨w.heap.size,0,none⟩=some (.int .i64 sp):=b0;have xb1:(w.alloc (.cells #[.int .i64 sp,.int .i64 sl] 173)).cell? ⟨w.heap.size,1,none⟩=some (.int .i64 sl):=b1
 have xf:∀i,(w.alloc (.cells #[.int .i64 sp,.int .i64 sl] 173)).frozen? ⟨q.f,i,none⟩=false:=A8;have y0:((w.alloc (.cells #[.int .i64 sp,.int .i64 sl] 173)).setCell ⟨q.f,2,none⟩ (.int .i64 (q.next+1))).cell? ⟨q.f,0,none⟩=some (.map (some q.m)):=g0;have y2:((w.alloc (.cells #[.int .i64 sp,.int .i64 sl] 173)).setCell ⟨q.f,2,none⟩ (.int .i64 (q.next+1))).cell? ⟨q.f,2,none⟩=some (.int .i64 (q.next+1)):=g2;have z0:(((w.alloc (.cells #[.int .i64 sp,.int .i64 sl] 173)).setCell ⟨q.f,2,none⟩ (.int .i64 (q.next+1))).alloc (.cells #[.int .i64 sp,.int .i64 sl,.int .i64 par,.slice none 0 0] 285)).cell? ⟨q.f,0,none⟩=some (.map (some q.m)):=n0
 have z2:(((w.alloc (.cells #[.int .i64 sp,.int .i64 sl] 173)).setCell ⟨q.f,2,none⟩ (.int .i64 (q.next+1))).alloc (.cells #[.int .i64 sp,.int .i64 sl,.int .i64 par,.slice none 0 0] 285)).cell? ⟨q.f,2,none⟩=some (.int .i64 (q.next+1)):=n2;have r3x:(Instr.mapUpdate 280 (.map (some q.m)) (.int .i64 (q.next+1)) (.pointer (some ⟨w.heap.size+1,0,none⟩))).run prog (((w.alloc (.cells #[.int .i64 sp,.int .i64 sl] 173)).setCell ⟨q.f,2,none⟩ (.int .i64 (q.next+1))).alloc (.cells #[.int .i64 sp,.int .i64 sl,.int .i64 par,.slice none 0 0] 285)).drew.drew=.ok () w3:=r3;clear r3 g0 g2 n0 n2 b0 b1 d0 d1 d2 A8
 obtain⟨va,vk,vc,hV⟩:∃a k c,lvOf rv' (e.q.ks.length+1)=.slice a k c:=by
  cases rv' with
  | none=>exact⟨_,_,_,rfl⟩
  | some p=>exact⟨_,_,_,rfl⟩
 rw[hV] at r5x u2 HS;clear hV;generalize lvOf (q.kr par) e.q.ks.length=V at *
 have HR:=Q0a r5x;clear r5x;clear keep st sa st5 Fs C9 Dj AA Cy Ie BT Fx JR hf h0 hb h ok hp Aw Ed;go_enter func105,ntmps105;go_wp2_with fail;refine ka.mono ?_;rintro e w'⟨rfl,rfl⟩;go_wp2_with fail;go_region;go_wp2_with fail;go_region;go_wp2_with fail;go_region;go_wp2_with fail
 go_region_law (refine Q0B rfl _ _ 38 38 rfl _ _ (by simp[Act.eval]) (by simp[Act.eval]) HR.out ?_)
 all_goals
  go_wp2_with fail
  (try go_ret2);exact⟨rfl,HS.out⟩
theorem Z6p{q:FO}(ok:q.Ok)(b:Nat)(sp sl:Int):(q.app b ⟨sp,sl,0,[]⟩).N=addN q.N 0 (q.next+1) b sp sl:=by
 unfold addN;rw[Z0x fun c hc=>if_neg (by have:=ok.n.rng c hc;omega)];rfl
theorem Z9a{q:FO}(ok:q.Ok){par:Int}{e:En Nd}(hf:find q.N par=some e)(b:Nat)(sp sl:Int)(rv:RV) :
  ((q.app b ⟨sp,sl,par,[]⟩).setN par {e.q with ks:=e.q.ks++[q.next+1]} rv).N=addN q.N par (q.next+1) b sp sl:=by
 obtain⟨he,hid⟩:=Q0d hf;have hr:=ok.n.rng e he;show mapE _ (q.N++[_])=_;unfold addN mapE;rw[J6E];congr 1
 ·refine J5k fun c hc=>?_
  by_cases h:c.id=par
  ·have:c=e:=by
    have:=Q0q ok.n.ids hc;rw[h,hf] at this;cases this;rfl
   subst this;simp only[h,if_true]
  ·simp only[h,if_false]
 ·have Ac:¬(q.next+1=par):=by omega
  simp only[J3k,J5H,Ac,if_false]
structure Z1T(q:FO)(par sp sl:Int)(q':FO):Prop where
 f:q'.f=q.f
 m:q'.m=q.m
 o:q'.o=q.o
 N:∃b,q'.N=addN q.N par (q.next+1) b sp sl
 next:q'.next=q.next+1
 ok:q'.Ok
theorem Q8f{w:World}{q:FO}(h:Sep w q.hl)(ok:q.Ok){par sp sl:Int}(B8:par=0∨∃e,find q.N par=some e)(h1:0<=sp)(h2:sp<4294967296)(h3:0<=sl)(h4:sl<256)(Aw:ownN q.N sp sl=0)(hlim:q.next+1<1099511627776)(Cy:q.N.length<65536) :
  Calls prog 105 #[.pointer (some ⟨q.f,0,none⟩),.int .i64 par,.int .i64 sp,.int .i64 sl] w fun r w'=>r=.returned (.tuple #[.int .i64 (q.next+1),.int .i64 0])/\∃q':FO,Z1T q par sp sl q'/\Step q.hl q'.hl w w':=by
 have hp:=Q6a (p:=(sp,sl)) h1 (by show sp<_;omega) h3 (by show sl<_;omega);have Ab:∀b,(addN q.N par (q.next+1) b sp sl).length<=65536:=fun b=>by
  unfold addN mapE;rw[J3N,J4K,J6Z];omega
 have hn:∀b,NOk (addN q.N par (q.next+1) b sp sl) (q.next+1):=fun b=>ok.n.add b B8 ((Q6b ok.n).1 Aw) h1 h2 h3 h4
 rcases B8 with rfl|⟨e,hf⟩
 ·refine(Z6o h ok hp Aw).mono ?_;rintro r w'⟨rfl,st⟩;have eN:=Z6p ok (w.heap.size+1) sp sl;refine⟨rfl,q.app (w.heap.size+1) ⟨sp,sl,0,[]⟩,⟨rfl,rfl,rfl,⟨_,eN⟩,rfl,⟨by rw[eN];exact hn _,hlim,fun c hc=>?_,by rw[eN];exact Ab _⟩⟩,st⟩;rcases J3Q.1 (show c∈q.N++[_] from hc) with hc|hc
  ·have:=ok.n.rng c hc;have hk:(q.app (w.heap.size+1) ⟨sp,sl,0,[]⟩).kr c.id=q.kr c.id:=if_neg (by omega);rw[hk];exact ok.rv c hc
  ·rw[J5i] at hc;subst hc;have hk:(q.app (w.heap.size+1) ⟨sp,sl,0,[]⟩).kr (q.next+1)=none:=if_pos rfl;show rvOk ((q.app (w.heap.size+1) ⟨sp,sl,0,[]⟩).kr (q.next+1)) 0;rw[hk];rfl
 ·refine(Z8Z h ok hf hp Aw).mono ?_;rintro r w'⟨rfl,rv,AA,st⟩;have eN:=Z9a ok hf (w.heap.size+1) sp sl rv;obtain⟨he,hid⟩:=Q0d hf;have hr:=ok.n.rng e he;refine⟨rfl,(q.app (w.heap.size+1) ⟨sp,sl,par,[]⟩).setN par {e.q with ks:=e.q.ks++[q.next+1]} rv,⟨rfl,rfl,rfl,⟨_,eN⟩,rfl,⟨by rw[eN];exact hn _,hlim,fun c hc=>?_,by rw[eN];exact Ab _⟩⟩,st⟩;obtain⟨d,hd,rfl⟩:=Q1x (show c∈mapE _ (q.N++[_]) from hc);by_cases EO:d.id=par
  ·have hk:((q.app (w.heap.size+1) ⟨sp,sl,par,[]⟩).setN par {e.q with ks:=e.q.ks++[q.next+1]} rv).kr d.id=rv:=if_pos EO;show rvOk (((q.app (w.heap.size+1) ⟨sp,sl,par,[]⟩).setN par {e.q with ks:=e.q.ks++[q.next+1]} rv).kr d.id) (if d.id=par then({e.q with ks:=e.q.ks++[q.next+1]}:Nd) else d.q).ks.length;rw[hk,if_pos EO]
   simpa using AA
  ·have hk:((q.app (w.heap.size+1) ⟨sp,sl,par,[]⟩).setN par {e.q with ks:=e.q.ks++[q.next+1]} rv).kr d.id=(q.app (w.heap.size+1) ⟨sp,sl,par,[]⟩).kr d.id:=if_neg EO;show rvOk (((q.app (w.heap.size+1) ⟨sp,sl,par,[]⟩).setN par {e.q with ks:=e.q.ks++[q.next+1]} rv).kr d.id) (if d.id=par then({e.q with ks:=e.q.ks++[q.next+1]}:Nd) else d.q).ks.length;rw[hk,if_neg EO];rcases J3Q.1 hd with hd|hd
   ·have:=ok.n.rng d hd;have Ax:(q.app (w.heap.size+1) ⟨sp,sl,par,[]⟩).kr d.id=q.kr d.id:=if_neg (by omega);rw[Ax];exact ok.rv d hd
   ·rw[J5i] at hd;subst hd;have Ax:(q.app (w.heap.size+1) ⟨sp,sl,par,[]⟩).kr (q.next+1)=none:=if_pos rfl;show rvOk ((q.app (w.heap.size+1) ⟨sp,sl,par,[]⟩).kr (q.next+1)) 0;rw[Ax];rfl
structure Alt0(S S':CO):Prop where
 c:S'.c=S.c
 t:S'.t=S.t
 l:S'.l=S.l
 g:S'.g=S.g
 per:S'.period=S.period
 now:S'.now=S.now
 rv:S'.rv=S.rv
 ts:S'.ts=S.ts
 same:SameP S.P S'.P
 next:S'.P.q.next=S.P.q.next
 acc:∀id e,find S.P.q.E id=some e->∃e',find S'.P.q.E id=some e'/\e'.q={e.q with charged:=e'.q.charged}
 ids:S'.P.q.E.map En.id=S.P.q.E.map En.id
 kept:∀r∈S.l,r.is=true->r.kind≠2->Kept S.P.a.mem S'.P.a.mem r.at_ (costK r.kind)
theorem Alt.alt0{S S':CO}{own:Int}(h:Alt S S' own):Alt0 S S':=⟨h.c,h.t,h.l,h.g,h.per,h.now,h.rv,h.ts,h.same,h.next,fun id e he=>by
 obtain⟨e',a,b,_⟩:=h.acc id e he;exact⟨e',a,b⟩,h.ids,h.kept⟩
theorem Alt0.refl(S:CO):Alt0 S S:=(Alt.refl S 0).alt0
theorem Alt0.trans{S S1 S2:CO}(h:Alt0 S S1)(k:Alt0 S1 S2):Alt0 S S2:=by
 refine⟨k.c.trans h.c,k.t.trans h.t,k.l.trans h.l,k.g.trans h.g,k.per.trans h.per,k.now.trans h.now,k.rv.trans h.rv,k.ts.trans h.ts,h.same.trans k.same,k.next.trans h.next,fun id e he=>?_,k.ids.trans h.ids,fun r hr hi hk=>?_⟩
 ·obtain⟨e1,a1,a2⟩:=h.acc id e he;obtain⟨e2,b1,b2⟩:=k.acc id e1 a1;refine⟨e2,b1,?_⟩;rw[b2,a2]
 ·exact(h.kept r hr hi hk).trans (k.kept r (by rw[h.l];exact hr) hi hk)
structure SP where
 s:Nat
 S:CO
 tb:Nat->TB
 F:FO
def SP.head(Z:SP):Nat×(Obj->Prop):=(Z.s,isC 183 [ptr Z.S.c,ptr Z.F.f])
def SP.hl(Z:SP):HL:=Z.head::(Z.S.hl++Z.F.hl)
structure SP.Ok(Z:SP)(fr:List Nat)(N K:Nat)(M:Int):Prop where
 core:Z.S.Ok fr N K
 tpi:TPI Z.S Z.tb
 fpi:FPI Z.S.l Z.tb Z.F.N
 fo:Z.F.Ok
 next:Z.F.next<=M
def SP.av(Z:SP):AV:=avOf Z.S.l Z.tb Z.F.N
structure SameN(Z Z':SP):Prop where
 s:Z'.s=Z.s
 alt:Alt0 Z.S Z'.S
 f:Z'.F.f=Z.F.f
theorem SameN.refl(Z:SP):SameN Z Z:=⟨rfl,Alt0.refl _,rfl⟩
theorem SameN.trans{Z Z1 Z2:SP}(h:SameN Z Z1)(k:SameN Z1 Z2):SameN Z Z2:=⟨k.s.trans h.s,h.alt.trans k.alt,k.f.trans h.f⟩
structure SameZ(Z Z':SP):Prop extends SameN Z Z' where
 nx:Z'.F.next=Z.F.next
theorem SameZ.refl(Z:SP):SameZ Z Z:=⟨SameN.refl Z,rfl⟩
theorem SameZ.trans{Z Z1 Z2:SP}(h:SameZ Z Z1)(k:SameZ Z1 Z2):SameZ Z Z2:=⟨h.toSameN.trans k.toSameN,k.nx.trans h.nx⟩
def SP.setS(Z:SP)(S:CO)(tb:Nat->TB):SP:={Z with S:=S,tb:=tb}
def SP.setF(Z:SP)(F:FO):SP:={Z with F:=F}
theorem SP.permS(Z:SP):Z.hl.Perm (Z.S.hl++(Z.head::Z.F.hl)):=by
 unfold SP.hl;exact J6F.symm
theorem SP.permF(Z:SP):Z.hl.Perm (Z.F.hl++(Z.head::Z.S.hl)):=by
 unfold SP.hl;refine(List.Perm.cons _ J5P).trans ?_;exact J6F.symm
section
variable {w:World} {Z:SP}
theorem SP.sS(h:Sep w Z.hl):Sep w Z.S.hl:=h.part Z.permS
theorem SP.sF(h:Sep w Z.hl):Sep w Z.F.hl:=h.part Z.permF
theorem SP.cells(h:Sep w Z.hl):Cells w Z.s 183 [ptr Z.S.c,ptr Z.F.f]:=h.cells (by simp[SP.hl,SP.head])
theorem SP.c0(h:Sep w Z.hl):w.cell? ⟨Z.s,0,none⟩=some (.pointer (some ⟨Z.S.c,0,none⟩)):=(SP.cells h).cell 0 _ rfl
theorem SP.c1(h:Sep w Z.hl):w.cell? ⟨Z.s,1,none⟩=some (.pointer (some ⟨Z.F.f,0,none⟩)):=(SP.cells h).cell 1 _ rfl
end
theorem SP.stepS{w w':World}{Z:SP}(h:Sep w Z.hl)(S':CO)(tb':Nat->TB)(e:S'.c=Z.S.c)(s:Step Z.S.hl S'.hl w w'):Step Z.hl (Z.setS S' tb').hl w w':=by
 have hp:=(Z.setS S' tb').permS;have e1:(Z.setS S' tb').head=Z.head:=by unfold SP.head SP.setS;rw[e]
 rw[e1] at hp;exact Step.lift Z.permS hp h s
theorem SP.stepF{w w':World}{Z:SP}(h:Sep w Z.hl)(F':FO)(e:F'.f=Z.F.f)(s:Step Z.F.hl F'.hl w w'):Step Z.hl (Z.setF F').hl w w':=by
 have hp:=(Z.setF F').permF;have e1:(Z.setF F').head=Z.head:=by unfold SP.head SP.setF;rw[e]
 rw[e1] at hp;exact Step.lift Z.permF hp h s
theorem SP.Ok.mono{Z:SP}{fr:List Nat}{N N' K K':Nat}{M M':Int}(ok:Z.Ok fr N K M)(h1:N<=N')(h2:K<=K')(h3:M<=M'):Z.Ok fr N' K' M':=⟨ok.core.mono h1 h2,ok.tpi,ok.fpi,ok.fo,by have:=ok.next;omega⟩
theorem FPI.rights{l:List Pl}{tb:Nat->TB}{N:List (En Nd)}(f:FPI l tb N){h s:Nat}{x:Nat×Nat}(hx:(avOf l tb N).en h s=some x):1<=x.2/\x.2<16:=by
 unfold avOf at hx;simp only at hx;cases he:Q0f l tb h s with
 | none=>rw[he] at hx;cases hx
 | some e =>
  rw[he] at hx;cases hx;have:=(f.cap h s e he).r;exact⟨this.1,by show e.r<16;omega⟩
theorem FPI.task{l:List Pl}{tb:Nat->TB}{N:List (En Nd)}(f:FPI l tb N){next:Int}(ok:NOk N next){n:En Nd}(hn:n∈N):∃(h s:Nat) (p:Pl) (e:Ent),n.q.sp=(h:Int)/\n.q.sl=(s:Int)/\h<4294967296/\s<256/\pget l 1 h=some p/\p.kind=2/\(tb (h%256)).en s=some e/\Q0f l tb h s=some e:=by
 obtain⟨e,he⟩:=f.is n hn;have hs:=ok.sm n hn;unfold Q0G at he;obtain⟨p,p1,p2,p3,p4⟩:=Z3e he;exact⟨n.q.sp.toNat,n.q.sl.toNat,p,e,by omega,by omega,by omega,p3,p1,p2,p4,he⟩
theorem FPI.own{l:List Pl}{tb:Nat->TB}{N:List (En Nd)}(f:FPI l tb N){next:Int}(ok:NOk N next){h s:Nat}{e:Ent}(he:Q0f l tb h s=some e):∃n∈N,n.q.sp=(h:Int)/\n.q.sl=(s:Int)/\ownN N (h:Int) (s:Int)=n.id/\find N n.id=some n:=by
 obtain⟨n,h1,h2,h3⟩:=f.has h s e he;refine⟨n,h1,h2,h3,?_,Q0q ok.ids h1⟩;rw[<- h2,<- h3];exact Z6m ok h1
theorem FPI.free{l:List Pl}{tb:Nat->TB}{N:List (En Nd)}(f:FPI l tb N){next:Int}(ok:NOk N next){h s:Nat}(he:Q0f l tb h s=none):ownN N (h:Int) (s:Int)=0:=by
 refine(Q6b ok).2 fun n hn hx=>?_
 obtain⟨e,h2⟩:=f.is n hn;simp only[Prod.mk.injEq] at hx;unfold Q0G at h2;rw[hx.1,hx.2,J4g,J4g,he] at h2;cases h2
theorem FPI.few{l:List Pl}{tb:Nat->TB}{N:List (En Nd)}(f:FPI l tb N){next:Int}(ok:NOk N next){h s:Nat}{p:Pl}(hp:pget l 1 h=some p)(hs:s<256)(he:Q0f l tb h s=none):N.length<65536:=by
 have key:∀n∈N,∃p s,pget l 1 n.q.sp.toNat=some p/\n.q.sl=((s:Nat):Int)/\s<256:=fun n hn=>by
  obtain⟨h',s',p',e',h1,h2,_,h3,h4,_⟩:=f.task ok hn;exact⟨p',s',by rw[h1,J4g];exact h4,h2,h3⟩
 have P7:∀n∈N,n.q.sp.toNat%256*256+n.q.sl.toNat<65536:=fun n hn=>by
  obtain⟨p',s',_,h2,h3⟩:=key n hn;omega
 have inj:∀a∈N,∀b∈N,a.q.sp.toNat%256*256+a.q.sl.toNat=b.q.sp.toNat%256*256+b.q.sl.toNat->a=b:=fun a ha b hb hc=>by
  obtain⟨pa,sa,a1,a2,a3⟩:=key a ha;obtain⟨pb,sb,b1,b2,b3⟩:=key b hb;have e1:a.q.sp.toNat%256=b.q.sp.toNat%256:=by omega
  obtain⟨e2,_,_⟩:=Q5s a1 b1 e1;have Gu:=ok.sm a ha;have Al:=ok.sm b hb;exact Q4K ok ha hb (by omega) (by omega)
 have nd:(N.map fun n=>n.q.sp.toNat%256*256+n.q.sl.toNat).Nodup:=by
  refine J3L.2 ?_;refine(List.Pairwise.and_mem.1 ok.ids).imp ?_;rintro a b⟨ha,hb,Dx⟩ hc;exact Dx (by rw[inj a ha b hb hc])
 have Fo:h%256*256+s∉N.map fun n=>n.q.sp.toNat%256*256+n.q.sl.toNat:=fun hm=>by
  obtain⟨n,hn,hc⟩:=J3n.1 hm;obtain⟨p',s',h1,h2,h3⟩:=key n hn;have e1:n.q.sp.toNat%256=h%256:=by omega
  obtain⟨e2,_,_⟩:=Q5s h1 hp e1;obtain⟨e,h4⟩:=f.is n hn;unfold Q0G at h4;rw[e2,show n.q.sl.toNat=s by omega,he] at h4;cases h4
 have QB:∀B,(∀x∈(h%256*256+s)::N.map fun n=>n.q.sp.toNat%256*256+n.q.sl.toNat,x<B)->((h%256*256+s)::N.map fun n=>n.q.sp.toNat%256*256+n.q.sl.toNat).length<=B:=fun B hB=>Q8z B _ (J3X.2 ⟨Fo,nd⟩) hB
 have:=QB 65536 fun x hx=>by
  rcases J3m.1 hx with rfl|hx
  ·omega
  ·obtain⟨n,hn,rfl⟩:=J3n.1 hx;exact P7 n hn
 rw[J3O,J4K] at this;omega
structure TurnP(S:CO)(fr:List Nat)(N K:Nat)(tb:Nat->TB)(own:Int)(i s:Nat)(o:Option Ent)(S':CO)(t':TB):Prop where
 ok:S'.Ok fr N K
 tpi:TPI S' (updT tb i t')
 en:∀x,t'.en x=if x=s then o else(tb i).en x
 lf:∀k,(tb i).lf k=0∨t'.lf k=0∨t'.lf k=(tb i).lf k
 alt:Alt S S' own
def J2u(S:CO)(fr:List Nat)(N K:Nat)(tb:Nat->TB)(own:Int)(i s:Nat)(o:Option Ent)(w w':World):Prop:=∃S' t',TurnP S fr N K tb own i s o S' t'/\Step S.hl S'.hl w w'
theorem Q6c{l:List Pl}{tb:Nat->TB}(N N':List (En Nd)){h s:Nat}{p:Pl}(hp:pget l 1 h=some p)(hk:p.kind=2)(hs:s<256){t':TB}{o:Option Ent}(ht:∀x,t'.en x=if x=s then o else(tb (h%256)).en x) :
  avOf l (updT tb (h%256) t') N'=⟨setA (avOf l tb N).en h s (o.map Ent.c),N'⟩:=by
 unfold avOf setA;congr 1;funext h' s';rw[Q3o hp hk hs ht];split <;> rfl
theorem Z6q{l:List Pl}{tb:Nat->TB}{N:List (En Nd)}{h s:Nat}{e:Ent}(he:Q0f l tb h s=some e):(avOf l tb N).en h s=some (e.h,e.r):=by
 unfold avOf;simp only[he];rfl
theorem av_none{l:List Pl}{tb:Nat->TB}{N:List (En Nd)}{h s:Nat}:(avOf l tb N).en h s=none↔Q0f l tb h s=none:=by
 unfold avOf;simp
theorem Q8g{l:List Pl}{tb:Nat->TB}{N:List (En Nd)}{h s:Nat}{x:Nat×Nat}(hx:(avOf l tb N).en h s=some x):∃e,Q0f l tb h s=some e/\x=(e.h,e.r):=by
 unfold avOf at hx;simp only at hx;cases he:Q0f l tb h s with
 | none=>rw[he] at hx;cases hx
 | some e=>rw[he] at hx;cases hx;exact⟨e,rfl,rfl⟩
theorem Q4L{m:Nat}{a:AV}{id:Int}{n:En Nd}(hf:find a.N id=some n){h s:Nat}(h1:n.q.sp=(h:Int))(h2:n.q.sl=(s:Int)){x:Nat×Nat}(hx:a.en h s=some x) :
  Q1H m a id=if less x.2 m=0 then(⟨setA a.en h s none,Q0F a.N n n.q.ks.length⟩,true) else(⟨setA a.en h s (some (x.1,less x.2 m)),a.N⟩,false):=by
 unfold Q1H;rw[hf];simp only[h1,h2,J4g,hx]
section
variable {Z:SP} {fr:List Nat} {N K:Nat} {M:Int}
theorem SP.Ok.weakened(ok:Z.Ok fr N K M){id:Int}{n:En Nd}(hf:find Z.F.N id=some n){h s:Nat}{p:Pl}{e:Ent}(h1:n.q.sp=(h:Int))(h2:n.q.sl=(s:Int))(hp:pget Z.S.l 1 h=some p)(hk:p.kind=2)(hs:s<256)(he:Q0f Z.S.l Z.tb h s=some e){m:Nat}(hm:m<16)(h0:less e.r m≠0)
  (hd:Q3p m Z.av [] id) {S':CO} {t':TB} (T:TurnP Z.S fr N K Z.tb (p.fac:Int) (h%256) s (some ⟨e.h,less e.r m,e.nd⟩) S' t') :
  (Z.setS S' (updT Z.tb (h%256) t')).Ok fr N K M/\Q1H m Z.av id=((Z.setS S' (updT Z.tb (h%256) t')).av,false)/\SameZ Z (Z.setS S' (updT Z.tb (h%256) t')):=by
 have hr:=(ok.fpi.cap h s e he).r;obtain⟨a1,a2,a3⟩:=Q5o e.r (by omega) m hm;have hl:=T.alt.l;have Dd:=Q6c Z.F.N Z.F.N hp hk hs T.en;refine⟨⟨T.ok,T.tpi,?_,ok.fo,ok.next⟩,?_,⟨⟨rfl,T.alt.alt0,rfl⟩,rfl⟩⟩
 ·show FPI S'.l _ Z.F.N;rw[hl];refine ok.fpi.weak ok.fo.n hp hk hs he T.en rfl ⟨by show 1<=less e.r m;omega,by show less e.r m<=15;omega⟩ a2 fun c hc d D6 e1 e2 x hx=>?_
  -- d is the node itself
  obtain⟨d1,d2⟩:=Q0d D6;obtain⟨n1,n2⟩:=Q0d hf;have WP:d=n:=Q4K ok.fo.n d1 n1 (by rw[e1,h1]) (by rw[e2,h2]);subst WP;obtain⟨q1,q2⟩:=ok.fo.n.par c hc;have B8:c.q.par=d.id:=d2.symm;obtain⟨pp,p1,p2⟩:=q2 (by have:=ok.fo.n.rng d n1;omega);rw[D6] at p1;cases p1;have V0:=ok.fpi.up c hc d D6 x e hx (by
   unfold Q0G;rw[h1,h2,J4g,J4g];exact he)
  have Xu:1<=x.r/\x.r<=15:=by
   obtain⟨ch,cs,cp,ce,c1,c2,c3,c4,c5,c6,c7,c8⟩:=ok.fpi.task ok.fo.n hc;unfold Q0G at hx;rw[c1,c2,J4g,J4g,c8] at hx;cases hx;exact(ok.fpi.cap _ _ _ c8).r
  rcases hd d hf c.id p2 with hz|hz
  ·cases hz
  ·have Fr:=hz c (Q0q ok.fo.n.ids hc) (x.h,x.r) (Z6q hx);exact Z8Q x.r (by omega) e.r (by omega) m hm V0.2 Fr
 ·rw[Q4L (a:=Z.av) hf h1 h2 (Z6q he)];simp only;rw[if_neg h0];congr 1;show _=avOf S'.l (updT Z.tb (h%256) t') Z.F.N;rw[hl,Dd];rfl
theorem SP.Ok.lifted(ok:Z.Ok fr N K M){id:Int}{n:En Nd}(hf:find Z.F.N id=some n){h s:Nat}{p:Pl}{e:Ent}(h1:n.q.sp=(h:Int))(h2:n.q.sl=(s:Int))(hp:pget Z.S.l 1 h=some p)(hk:p.kind=2)(hs:s<256)(he:Q0f Z.S.l Z.tb h s=some e){m:Nat}(h0:less e.r m=0)
  {S':CO} {t':TB} (T:TurnP Z.S fr N K Z.tb (p.fac:Int) (h%256) s none S' t') {F':FO} (hF:F'.N=Q0F Z.F.N n n.q.ks.length) (EJ:F'.Ok) (IY:F'.next=Z.F.next) (Gq:F'.f=Z.F.f) :
  ((Z.setF F').setS S' (updT Z.tb (h%256) t')).Ok fr N K M/\Q1H m Z.av id=(((Z.setF F').setS S' (updT Z.tb (h%256) t')).av,true)/\SameZ Z ((Z.setF F').setS S' (updT Z.tb (h%256) t')):=by
 have hl:=T.alt.l;have Dd:=Q6c Z.F.N F'.N hp hk hs T.en;obtain⟨n1,n2⟩:=Q0d hf;refine⟨⟨T.ok,T.tpi,?_,EJ,by show F'.next<=M;rw[IY];exact ok.next⟩,?_,⟨⟨rfl,T.alt.alt0,Gq⟩,IY⟩⟩
 ·show FPI S'.l _ F'.N;rw[hl,hF];exact ok.fpi.lift ok.fo.n hp hk hs T.en (by rw[n2];exact hf) h1 h2
 ·rw[Q4L (a:=Z.av) hf h1 h2 (Z6q he)];simp only;rw[if_pos h0];congr 1;show _=avOf S'.l (updT Z.tb (h%256) t') F'.N;rw[hl,Dd,hF];rfl
theorem SP.Ok.added(ok:Z.Ok fr N K M){h s:Nat}{p:Pl}(hp:pget Z.S.l 1 h=some p)(hk:p.kind=2)(hs:s<256)(h0:Q0f Z.S.l Z.tb h s=none){e:Ent}(hc:Q6D Z.S.l s e)
  {S':CO} {t':TB} (T:TurnP Z.S fr N K Z.tb (p.fac:Int) (h%256) s (some e) S' t') {par:Int} (B8:par=0∨∃m em,find Z.F.N par=some m/\Q0G Z.S.l Z.tb m=some em/\e.h=em.h/\e.r&&&em.r=e.r) {F':FO} (A:Z1T Z.F par (h:Int) (s:Int) F') :
  ((Z.setF F').setS S' (updT Z.tb (h%256) t')).Ok fr N K (M+1)/\SameN Z ((Z.setF F').setS S' (updT Z.tb (h%256) t'))/\((Z.setF F').setS S' (updT Z.tb (h%256) t')).av.en=setA Z.av.en h s (some (e.h,e.r))/\∃b,((Z.setF F').setS S' (updT Z.tb (h%256) t')).av.N=addN Z.F.N par (Z.F.next+1) b (h:Int) (s:Int):=by
 have hl:=T.alt.l;obtain⟨b,hN⟩:=A.N;have Dd:=Q6c Z.F.N F'.N hp hk hs T.en;have GY:((Z.setF F').setS S' (updT Z.tb (h%256) t')).av=⟨setA Z.av.en h s ((some e).map Ent.c),F'.N⟩:=by
  show avOf S'.l (updT Z.tb (h%256) t') F'.N=_;rw[hl,Dd];rfl
 refine⟨⟨T.ok,T.tpi,?_,A.ok,by show F'.next<=M+1;rw[A.next];have:=ok.next;omega⟩,⟨rfl,T.alt.alt0,A.f⟩,by rw[GY];rfl,b,by rw[GY];exact hN⟩;show FPI S'.l _ F'.N;rw[hl,hN];exact ok.fpi.add ok.fo.n hp hk hs h0 T.en hc b B8
end
theorem Q2F(w:World)(z:Int):Calls prog 92 #[.int .i64 z] w fun r w'=>r=.returned (.bool (decide (0<=z/\z<256)))/\w=w':=by
 by_cases h0:0<=z
 ·by_cases h1:z<256
  ·rw[decide_eq_true (show 0<=z/\z<256 from⟨h0,h1⟩)];go_enter func92,ntmps92
   go_wp2
   go_ret;exact⟨rfl,rfl⟩
  ·rw[decide_eq_false (show ¬(0<=z/\z<256) from fun h=>h1 h.2)];have hd:decide (z<256)=false:=by simpa using h1
   go_enter func92,ntmps92
   go_wp2
   go_ret;exact⟨rfl,rfl⟩
 ·rw[decide_eq_false (show ¬(0<=z/\z<256) from fun h=>h0 h.1)];have hd:decide (0<=z)=false:=by simpa using h0
  go_enter func92,ntmps92
  go_wp2
  go_ret;exact⟨rfl,rfl⟩
theorem Q3s(w:World)(z:Int):Calls prog 106 #[.int .i64 z] w fun r w'=>r=.returned (.bool (decide (0<z/\z<=15)))/\w=w':=by
 by_cases h0:0<z
 ·by_cases h1:z<=15
  ·rw[decide_eq_true (show 0<z/\z<=15 from⟨h0,h1⟩)];go_enter func106,ntmps106
   go_wp2
   go_ret;exact⟨rfl,rfl⟩
  ·rw[decide_eq_false (show ¬(0<z/\z<=15) from fun h=>h1 h.2)];have hd:decide (z<=15)=false:=by simpa using h1
   go_enter func106,ntmps106
   go_wp2
   go_ret;exact⟨rfl,rfl⟩
 ·rw[decide_eq_false (show ¬(0<z/\z<=15) from fun h=>h0 h.1)];have hd:decide (0<z)=false:=by simpa using h0
  go_enter func106,ntmps106
  go_wp2
  go_ret;exact⟨rfl,rfl⟩
theorem Q2s(w:World)(z:Int):Calls prog 96 #[.int .i64 z] w fun r w'=>r=.returned (.bool (decide (z<128)))/\w=w':=by
 go_enter func96,ntmps96
 go_wp2
 go_ret;exact⟨rfl,rfl⟩
theorem Z9b(h r:Nat)(hh:h<4294967295)(hr:r<16):bits .or .u64 ((h:Int)+1) ((r:Int)*4294967296)=(((⟨h,r,0⟩:Ent).a:Nat):Int):=by
 have e1:((h:Int)+1)=((h+1:Nat):Int):=by omega
 have e2:((r:Int)*4294967296)=((r*4294967296:Nat):Int):=by omega
 rw[e1,e2,u64_or_nat _ _ (by omega) (by omega)];unfold Ent.a;have:(h+1)|||(r*4294967296)=h+1+4294967296*r:=by
  rw[J6w,nat_join 32 (r*4294967296) (h+1) (by omega) (by omega)];omega
 rw[this]
theorem J1t(h r:Nat)(hh:h<4294967295)(hr:r<16):bits .and .u64 ((((⟨h,r,0⟩:Ent).a:Nat):Int)) 4294967295=((h+1:Nat):Int):=by
 unfold Ent.a;have:=u64_and_nat (h+1+4294967296*r) 4294967295 (by omega) (by omega);rw[show((4294967295:Nat):Int)=4294967295 from rfl] at this;rw[show(⟨h,r,0⟩:Ent).h=h from rfl,show(⟨h,r,0⟩:Ent).r=r from rfl,this,J4G _ 32];omega
theorem Z9c(h r:Nat)(hh:h<4294967295):(((⟨h,r,0⟩:Ent).a:Nat):Int)/4294967296=(r:Int):=by
 unfold Ent.a;show((h+1+4294967296*r:Nat):Int)/4294967296=(r:Int);omega
theorem J2W(e:Ent):e.a=(⟨e.h,e.r,0⟩:Ent).a:=rfl
def capV:Option Ent->Value
 | none=>.tuple #[.agg #[.int .u32 0,.int .i64 0],.bool false]
 | some e=>.tuple #[.agg #[.int .u32 (e.h:Int),.int .i64 (e.r:Int)],.bool true]
def Ent.Low(e:Ent):Prop:=e.h<4294967295/\e.r<16
theorem Q1y{w:World}{S:CO}{t:TB}{p:Pl}{g:Nat}(T:TT S t p g w)(x f z:Int)(JZ:∀e,t.at' z=some e->e.Low) :
  Calls prog 93 #[.agg #[.pointer (some ⟨g,0,none⟩),.int .u32 x,.int .i64 f],.int .i64 z] w (Told w (capV (t.at' z))):=by
 have Ae:Below w.heap.size w ((w.alloc (.cells #[.pointer (some ⟨g,0,none⟩),.int .u32 x,.int .i64 f] 191)).alloc (.cells #[.int .u32 0,.int .i64 0] 72)):=((Below.refl _ _).alloc (J3h _) _).alloc (by simp) _;have kg:=Q4o (T.grown Ae) z;have hA:=(Cells.new w 191 [.pointer (some ⟨g,0,none⟩),.int .u32 x,.int .i64 f]).alloc (.cells #[.int .u32 0,.int .i64 0] 72);have a0:=hA.cell 0 _ rfl;have HE:Hid (∀o,Below w.heap.size w ((w.alloc (.cells #[.pointer (some ⟨g,0,none⟩),.int .u32 x,.int .i64 f] 191)).alloc o)):=fun o=>((Below.refl _ _).alloc (J3h _) _).alloc (by simp) o
 cases ho:t.at' z with
 | none =>
  rw[ho] at kg;unfold getV Q0t Q0T at kg;simp only[capV];clear T JZ ho hA Ae;go_enter func93,ntmps93;go_wp2_with fail;refine kg.mono ?_;rintro r w1⟨rfl,rfl⟩;go_wp2_with fail;refine bodyPost_ret (v:=.tuple #[.agg #[.int .u32 0,.int .i64 0],.bool false]) (by simp[results,results93,go_sem]) rfl ⟨rfl,HE.out _⟩
 | some e =>
  obtain⟨l1,l2⟩:=JZ e ho;rw[ho] at kg;simp only[getV,Q0t] at kg;simp only[capV];have h1:=J1t e.h e.r l1 l2;have h2:=Z9c e.h e.r l1;have Ac:((e.a:Nat):Int)≠0:=by unfold Ent.a;omega
  have Ib:(((e.a:Nat):Int)==0)=false:=by simpa using Ac
  rw[<- J2W] at h1 h2;have Gg:(bits .and .u64 ((e.a:Nat):Int) 4294967295-1)%4294967296=(e.h:Int):=by rw[h1];omega
  have EZ:((e.a:Nat):Int)/4294967296=(e.r:Int):=h2;have VG:=Q0a Gg;have UX:=Q0a EZ;clear Gg EZ h1 h2;have Aa:e.a<18446744073709551616:=by unfold Ent.a;omega
  generalize Q0T (some e)=cb at *
  generalize e.a=ca at *
  generalize e.h=eh at *
  generalize e.r=er at *
  have U8:(0:Int)<=(ca:Int):=by omega
  clear T JZ ho hA Ae Ac;go_enter func93,ntmps93;go_wp2_with fail;refine kg.mono ?_;rintro r w1⟨rfl,rfl⟩;go_wp2_with fail;refine bodyPost_ret (v:=.tuple #[.agg #[.int .u32 eh,.int .i64 er],.bool true]) (by simp[results,results93,go_sem,VG.out,UX.out]) rfl ⟨rfl,HE.out _⟩
def TblZ(Z:SP)(p:Pl)(g:Nat)(w:World):Prop:=AsideV Z.hl [ptr Z.S.P.p,.int .i64 (p.fac:Int),.int .i64 (p.at_:Int)] (some ⟨g,0,none⟩) w
theorem SP.keyS{Z:SP}{b:Nat}(h:b∈keys Z.S.hl):b∈keys Z.hl:=(Z.permS.map Prod.fst).mem_iff.2 (by rw[J6E];exact J3W _ h)
theorem TblZ.c{Z:SP}{p:Pl}{g:Nat}{w:World}(h:TblZ Z p g w):TblC Z.S p g w:=fun j v hj=>by
 obtain⟨g',e,hk,hl,hc⟩:=h j v hj;exact⟨g',e,fun x=>hk (SP.keyS x),hl,hc⟩
theorem TblZ.step{Z Z':SP}{p:Pl}{g:Nat}{w w':World}(h:TblZ Z p g w)(st:Step Z.hl Z'.hl w w')(hp:Z'.S.P.p=Z.S.P.p):TblZ Z' p g w':=by
 unfold TblZ;rw[hp];exact AsideV.step h st
theorem TblZ.grown{Z:SP}{p:Pl}{g:Nat}{w w':World}(h:TblZ Z p g w)(hs:Sep w Z.hl)(hb:Below w.heap.size w w'):TblZ Z p g w':=h.step (hs.grown hb) rfl
theorem Z6r{w:World}{Z:SP}{fr:List Nat}{N K:Nat}(h:Sep w Z.hl)(ok:Z.S.Ok fr N K){x:Nat}(hx:x<4294967296){p:Pl}(hp:pget Z.S.l 1 x=some p)(hk:p.kind=2) :
  Calls prog 90 #[.pointer (some ⟨Z.s,0,none⟩),.int .u32 x] w fun r w'=>∃g:Nat,r=.returned (.tuple #[.agg #[.pointer (some ⟨g,0,none⟩),.int .u32 x,.int .i64 (p.fac:Int)],.int .i64 0])/\Below w.heap.size w w'/\TblZ Z p g w'/\w.heap.size<=g:=by
 have b1:Below w.heap.size w (w.alloc (.cells #[.pointer none,.int .u32 0,.int .i64 0] 191)):=(Below.refl _ _).alloc (J3h _) _;have s1:=(h.grown b1).sep;have c0:=SP.c0 s1;have hO:Calls prog 49 #[.pointer (some ⟨Z.S.c,0,none⟩),.int .u32 x,.int .i64 2] (w.alloc (.cells #[.pointer none,.int .u32 0,.int .i64 0] 191)) (Told (w.alloc (.cells #[.pointer none,.int .u32 0,.int .i64 0] 191)) (.tuple #[.agg #[.int .i64 (p.kind:Int),.int .i64 (p.at_:Int),.int .i64 (p.fac:Int)],.int .i64 0])):=Q3m (SP.sS s1) ok.inv.lok hx 2 hp (.inr (by omega));have hu:p.at_∈Z.S.P.usedOf 2:=Q1m ok (pget_some.1 hp).1 (pget_some.1 hp).2.2 hk
 have HC:Hid (∀w1,Below (w.alloc (.cells #[.pointer none,.int .u32 0,.int .i64 0] 191)).heap.size (w.alloc (.cells #[.pointer none,.int .u32 0,.int .i64 0] 191)) w1 ->
   ((w1.alloc (.cells #[.int .i64 (p.kind:Int),.int .i64 (p.at_:Int),.int .i64 (p.fac:Int)] 54)).cell? ⟨Z.s,0,none⟩=some (.pointer (some ⟨Z.S.c,0,none⟩))/\(w1.alloc (.cells #[.int .i64 (p.kind:Int),.int .i64 (p.at_:Int),.int .i64 (p.fac:Int)] 54)).cell? ⟨w1.heap.size,1,none⟩=some (.int .i64 (p.at_:Int))/\(w1.alloc (.cells #[.int .i64 (p.kind:Int),.int .i64 (p.at_:Int),.int .i64 (p.fac:Int)] 54)).cell? ⟨w1.heap.size,2,none⟩=some (.int .i64 (p.fac:Int))) /\
   ∀w2,Below (w1.alloc (.cells #[.int .i64 (p.kind:Int),.int .i64 (p.at_:Int),.int .i64 (p.fac:Int)] 54)).heap.size (w1.alloc (.cells #[.int .i64 (p.kind:Int),.int .i64 (p.at_:Int),.int .i64 (p.fac:Int)] 54)) w2 ->
    Calls prog 27 #[.pointer (some ⟨Z.S.c,0,none⟩)] w2 (fun r w'=>r=.returned (.pointer (some ⟨Z.S.P.p,0,none⟩))/\w2=w') /\
    Calls prog 169 #[.pointer (some ⟨Z.S.P.p,0,none⟩),.int .i64 (p.fac:Int),.int .i64 (p.at_:Int)] w2 (fun r w'=>(w'.cell? ⟨Z.s,0,none⟩=some (.pointer (some ⟨Z.S.c,0,none⟩))/\w'.cell? ⟨w1.heap.size,1,none⟩=some (.int .i64 (p.at_:Int))/\w'.cell? ⟨w1.heap.size,2,none⟩=some (.int .i64 (p.fac:Int)))/\∃g:Nat,r=.returned (.pointer (some ⟨g,0,none⟩))/\Cells w' w.heap.size 191 [.pointer none,.int .u32 0,.int .i64 0]/\(∀a b c,(((w'.setCell ⟨w.heap.size,0,none⟩ a).setCell ⟨w.heap.size,1,none⟩ b).setCell ⟨w.heap.size,2,none⟩ c).cell? ⟨Z.s,0,none⟩=some (.pointer (some ⟨Z.S.c,0,none⟩))/\(((w'.setCell ⟨w.heap.size,0,none⟩ a).setCell ⟨w.heap.size,1,none⟩ b).setCell ⟨w.heap.size,2,none⟩ c).cell? ⟨w1.heap.size,1,none⟩=some (.int .i64 (p.at_:Int))/\(((w'.setCell ⟨w.heap.size,0,none⟩ a).setCell ⟨w.heap.size,1,none⟩ b).setCell ⟨w.heap.size,2,none⟩ c).cell? ⟨w1.heap.size,2,none⟩=some (.int .i64 (p.fac:Int)))/\∀a b c,Below w.heap.size w (((w'.setCell ⟨w.heap.size,0,none⟩ a).setCell ⟨w.heap.size,1,none⟩ b).setCell ⟨w.heap.size,2,none⟩ c)/\TblZ Z p g (((w'.setCell ⟨w.heap.size,0,none⟩ a).setCell ⟨w.heap.size,1,none⟩ b).setCell ⟨w.heap.size,2,none⟩ c)/\w.heap.size<=g)):=fun w1 Aq=>by
  have hR:=(Cells.new w 191 [.pointer none,.int .u32 0,.int .i64 0]).same (Aq.block w.heap.size (by simp));have Mt:Below w.heap.size w w1:=Q0b Aq;have Dy:=Mt.alloc Mt.size (.cells #[.int .i64 (p.kind:Int),.int .i64 (p.at_:Int),.int .i64 (p.fac:Int)] 54);have Rw:=Cells.new w1 54 [.int .i64 (p.kind:Int),.int .i64 (p.at_:Int),.int .i64 (p.fac:Int)];have Vv:w.heap.size<w1.heap.size:=by have:=Aq.size;simp at this;omega
  have Qa:=hR.alloc (.cells #[.int .i64 (p.kind:Int),.int .i64 (p.at_:Int),.int .i64 (p.fac:Int)] 54);refine⟨⟨SP.c0 (h.grown Dy).sep,Rw.cell 1 _ rfl,Rw.cell 2 _ rfl⟩,fun w2 Ae=>?_⟩;have GF:Below w.heap.size w w2:=Dy.trans (Ae.mono (by simp;omega));have s2:=(h.grown GF).sep;refine⟨Q0S (SP.sS s2),(J1s (SP.sS s2) ok hu).mono ?_⟩;rintro r w'⟨g,rfl,Am,ht,hg⟩;have O5:=(Rw.same (Ae.block w1.heap.size (by simp))).same (Am.block w1.heap.size (by have:=Ae.size;simp at this;omega));have Av:Below w.heap.size w w':=GF.trans (Am.mono GF.size);have UB:=(Qa.same (Ae.block w.heap.size (by simp;omega))).same (Am.block w.heap.size (by have:=Ae.size;simp at this;omega))
  refine⟨⟨SP.c0 (h.grown Av).sep,O5.cell 1 _ rfl,O5.cell 2 _ rfl⟩,g,rfl,UB,fun a b c=>?_,fun a b c=>?_⟩
  ·have Bp:∀(W:World) (i k j:Nat) (u:Value),k≠w.heap.size->(W.setCell ⟨w.heap.size,i,none⟩ u).cell? ⟨k,j,none⟩=W.cell? ⟨k,j,none⟩:=fun W i k j u hk=>World.cell?_of_block (Below.heap_setCell _ _ _ _ (by simpa using hk))
   have Pu:Z.s≠w.heap.size:=fun hx=>by
    have:=h.lt (b:=Z.s) (by simp[SP.hl,SP.head,keys]);omega
   have CU:w1.heap.size≠w.heap.size:=by omega
   rw[Bp _ _ _ _ _ Pu,Bp _ _ _ _ _ Pu,Bp _ _ _ _ _ Pu,Bp _ _ _ _ _ CU,Bp _ _ _ _ _ CU,Bp _ _ _ _ _ CU,Bp _ _ _ _ _ CU,Bp _ _ _ _ _ CU,Bp _ _ _ _ _ CU];exact⟨SP.c0 (h.grown Av).sep,O5.cell 1 _ rfl,O5.cell 2 _ rfl⟩
  refine⟨((Av.setCell (J3h _) _).setCell (J3h _) _).setCell (J3h _) _,fun j v hj=>?_,by have:=Ae.size;simp at this;omega⟩;obtain⟨g',e,_,hl,hc⟩:=ht j v hj;obtain rfl:g=g':=by cases e;rfl
  clear e;have Iz:w.heap.size<g:=by have:=Ae.size;simp at this;omega
  refine⟨g,rfl,fun hk=>?_,by simpa using hl,?_⟩
  ·have:=s2.lt hk;omega
  ·have Ac:∀(W:World) (i:Nat) (u:Value),(W.setCell ⟨w.heap.size,i,none⟩ u).cell? ⟨g,j,none⟩=W.cell? ⟨g,j,none⟩:=fun W i u=>World.cell?_of_block (Below.heap_setCell _ _ _ _ (by simp;omega))
   rw[Ac,Ac,Ac];exact hc
 clear h ok hp hu b1 s1;have Ax:((p.kind:Nat):Int)=2:=by omega
 rw[Ax] at hO;simp only[Ax] at HC;clear Ax hk;generalize p.at_=pa at *
 go_enter func90,ntmps90;go_wp2_with fail;refine hO.mono ?_;rintro r w1⟨rfl,Aq⟩;obtain⟨⟨c1,c2,c3⟩,A7⟩:=HC.out w1 Aq;have Qd:=Q0a A7;have d1:(w1.alloc (.cells #[.int .i64 2,.int .i64 pa,.int .i64 (p.fac:Int)] 54)).drew.cell? ⟨Z.s,0,none⟩=some (.pointer (some ⟨Z.S.c,0,none⟩)):=c1;have d2:(w1.alloc (.cells #[.int .i64 2,.int .i64 pa,.int .i64 (p.fac:Int)] 54)).drew.cell? ⟨w1.heap.size,1,none⟩=some (.int .i64 pa):=c2;have d3:(w1.alloc (.cells #[.int .i64 2,.int .i64 pa,.int .i64 (p.fac:Int)] 54)).drew.cell? ⟨w1.heap.size,2,none⟩=some (.int .i64 (p.fac:Int)):=c3;clear Aq A7 HC hO;go_wp2_with fail
 have DX:=(Qd.out _ ((Below.refl _ _).drew)).1;have FT:=(Qd.out _ ((Below.refl _ _).drew)).2;have DB:=Q0a FT;clear FT Qd
 go_region_held3 (fun w'=>w'.cell? ⟨Z.s,0,none⟩=some (.pointer (some ⟨Z.S.c,0,none⟩))/\w'.cell? ⟨w1.heap.size,1,none⟩=some (.int .i64 pa)/\w'.cell? ⟨w1.heap.size,2,none⟩=some (.int .i64 (p.fac:Int))) (first|exact⟨c1,c2,c3⟩|exact⟨d1,d2,d3⟩|exact Ap|exact Fj _ _ _)
  (first|(go_at_call 27;refine DX.mono ?_;rintro r w'⟨rfl,rfl⟩)|(go_at_call 169;refine DB.out.mono ?_;rintro r w3⟨Ap,g,rfl,Aj,Fj,hz⟩;have HZ:=Q0a hz;have e0:=Aj.cell 0 _ rfl;have e1:=Aj.cell 1 _ rfl;have e2:=Aj.cell 2 _ rfl;have f0:=Aj.free 0;have f1:=Aj.free 1;have f2:=Aj.free 2;have Aa:=Aj.lt;clear hz Aj DB))
 go_wp2_with fail;refine bodyPost_ret (v:=.tuple #[.agg #[.pointer (some ⟨g,0,none⟩),.int .u32 x,.int .i64 (p.fac:Int)],.int .i64 0]) (by simp[results,results90,go_sem,e0,e1,e2]) rfl ⟨g,rfl,HZ.out _ _ _⟩
theorem Q0Y{w:World}{Z:SP}{fr:List Nat}{N K:Nat}(h:Sep w Z.hl)(ok:Z.S.Ok fr N K){x:Nat}(hx:x<4294967296){p:Pl}(hp:pget Z.S.l 1 x=some p)(hk:p.kind=2) :
  Calls prog 90 #[.pointer (some ⟨Z.s,0,none⟩),.int .u32 x] w fun r w'=>∃g:Nat,r=.returned (.tuple #[.agg #[.pointer (some ⟨g,0,none⟩),.int .u32 x,.int .i64 (p.fac:Int)],.int .i64 0])/\Below w.heap.size w w'/\TblZ Z p g w':=
 (Z6r h ok hx hp hk).mono fun r w' ⟨g,h1,h2,h3,_⟩=>⟨g,h1,h2,h3⟩
theorem Q7o{w:World}{Z:SP}(h:Sep w Z.hl){x:Nat}{e:Int}(he:e≠0)(hO:Calls prog 49 #[.pointer (some ⟨Z.S.c,0,none⟩),.int .u32 x,.int .i64 2] (w.alloc (.cells #[.pointer none,.int .u32 0,.int .i64 0] 191)) (Told (w.alloc (.cells #[.pointer none,.int .u32 0,.int .i64 0] 191)) (.tuple #[.agg #[.int .i64 0,.int .i64 0,.int .i64 0],.int .i64 e]))) :
  Calls prog 90 #[.pointer (some ⟨Z.s,0,none⟩),.int .u32 x] w (Told w (.tuple #[.agg #[.pointer none,.int .u32 0,.int .i64 0],.int .i64 e])):=by
 have b1:Below w.heap.size w (w.alloc (.cells #[.pointer none,.int .u32 0,.int .i64 0] 191)):=(Below.refl _ _).alloc (J3h _) _;have c0:=SP.c0 (h.grown b1).sep;have Ib:(e==0)=false:=by simpa using he
 have HC:Hid (∀w1,Below (w.alloc (.cells #[.pointer none,.int .u32 0,.int .i64 0] 191)).heap.size (w.alloc (.cells #[.pointer none,.int .u32 0,.int .i64 0] 191)) w1->(∀o,Cells (w1.alloc o) w.heap.size 191 [.pointer none,.int .u32 0,.int .i64 0])/\∀o a b c,Below w.heap.size w ((((w1.alloc o).setCell ⟨w.heap.size,0,none⟩ a).setCell ⟨w.heap.size,1,none⟩ b).setCell ⟨w.heap.size,2,none⟩ c)):=fun w1 Aq=>by
  have hR:=(Cells.new w 191 [.pointer none,.int .u32 0,.int .i64 0]).same (Aq.block w.heap.size (by simp));exact⟨hR.alloc,fun o a b c=>((((Q0b Aq).alloc (Q0b Aq).size o).setCell (J3h _) _).setCell (J3h _) _).setCell (J3h _) _⟩
 clear h b1;go_enter func90,ntmps90;go_wp2_with fail;refine hO.mono ?_;rintro r w1⟨rfl,Aq⟩;obtain⟨BK,hz⟩:=HC.out w1 Aq;have Aj:=BK (.cells #[.int .i64 0,.int .i64 0,.int .i64 0] 54);have HZ:=Q0a hz;have e0:=Aj.cell 0 _ rfl;have e1:=Aj.cell 1 _ rfl;have e2:=Aj.cell 2 _ rfl;have f0:=Aj.free 0;have f1:=Aj.free 1;have f2:=Aj.free 2;have Aa:=Aj.lt;clear Aq hz Aj BK HC hO;go_wp2_with fail;refine bodyPost_ret (v:=.tuple #[.agg #[.pointer none,.int .u32 0,.int .i64 0],.int .i64 e]) (by simp[results,results90,go_sem,e0,e1,e2]) rfl ⟨rfl,HZ.out _ _ _ _⟩
theorem Q0K{w:World}{Z:SP}{fr:List Nat}{N K:Nat}(h:Sep w Z.hl)(ok:Z.S.Ok fr N K){x:Nat}(hx:x<4294967296)(e:Int)(hw:(pget Z.S.l 1 x=none/\e=8)∨∃p,pget Z.S.l 1 x=some p/\p.kind≠2/\e=10) :
  Calls prog 90 #[.pointer (some ⟨Z.s,0,none⟩),.int .u32 x] w (Told w (.tuple #[.agg #[.pointer none,.int .u32 0,.int .i64 0],.int .i64 e])):=by
 have s1:=(h.grown ((Below.refl w.heap.size w).alloc (J3h _) (.cells #[.pointer none,.int .u32 0,.int .i64 0] 191))).sep;rcases hw with ⟨hp,rfl⟩|⟨p,hp,hk,rfl⟩
 ·exact Q7o h (by decide) (Q4h (SP.sS s1) ok.inv.lok hx 2 hp)
 ·exact Q7o h (by decide) (Q4i (SP.sS s1) ok.inv.lok hx 2 hp (by decide) (by omega))
structure FO.New(q:FO):Prop where
 N:q.N=[]
 next:q.next=0
 ok:q.Ok
theorem Z9d{w:World}{H:HL}(h:Sep w H):Calls prog 155 #[] w fun r w'=>∃q:FO,r=.returned (.pointer (some ⟨q.f,0,none⟩))/\q.New/\Step H (q.hl++H) w w':=by
 have s1:=h.newMap;have s2:=s1.sep.newMap;have s3:=s2.sep.new 283 [.map (some w.heap.size),.map (some (w.alloc (.map #[] 0)).heap.size),.int .i64 0];have HQ:Hid (∃q:FO,q.f=((w.alloc (.map #[] 0)).alloc (.map #[] 0)).heap.size/\q.New/\Step H (q.hl++H) w (((w.alloc (.map #[] 0)).alloc (.map #[] 0)).alloc (.cells #[.map (some w.heap.size),.map (some (w.alloc (.map #[] 0)).heap.size),.int .i64 0] 283))):=by
  refine⟨⟨((w.alloc (.map #[] 0)).alloc (.map #[] 0)).heap.size,w.heap.size,(w.alloc (.map #[] 0)).heap.size,[],0,fun _=>none⟩,rfl,⟨rfl,rfl,⟨⟨List.Pairwise.nil,List.Pairwise.nil,J7c _,fun e h=>(by cases h),fun e h=>(by cases h),fun e h=>(by cases h),fun e h=>(by cases h),fun e h=>(by cases h),fun e h=>(by cases h)⟩,(by show(0:Int)<1099511627776;decide),fun e h=>(by cases h),J5d _⟩⟩,?_⟩;refine((s1.trans s2).trans s3).perm (J6v _) ?_;refine Q0X fun a=>?_
  simp only[FO.hl,FO.head,hc_append,hc_cons,kvs,okv,isMI,isMS,J5H,J7b];simp only[J2j];omega
 clear h s1 s2 s3;have AT:(w.alloc (.map #[] 0)).heap.size=w.heap.size+1:=by simp
 have Bk:((w.alloc (.map #[] 0)).alloc (.map #[] 0)).heap.size=w.heap.size+1+1:=by simp
 rw[AT,Bk] at HQ;have Il:=@run_makeMap prog;go_enter func155,ntmps155;go_wp2_with fail;obtain⟨q,e,h1,h2⟩:=HQ.out;have e2:Ending.returned (.pointer (some ⟨w.heap.size+1+1,0,none⟩))=Ending.returned (.pointer (some ⟨q.f,0,none⟩)):=by rw[e]
 (try go_ret);exact⟨q,e2,h1,h2⟩
structure SP.New(Z:SP)(S:CO)(tb:Nat->TB):Prop where
 S:Z.S=S
 tb:Z.tb=tb
 F:Z.F.New
theorem Z9e{w:World}{S:CO}(h:Sep w S.hl)(tb:Nat->TB):Calls prog 80 #[.pointer (some ⟨S.c,0,none⟩)] w fun r w'=>∃Z:SP,r=.returned (.pointer (some ⟨Z.s,0,none⟩))/\Z.New S tb/\Step S.hl Z.hl w w':=by
 have kf:=Z9d h;have HQ:Hid (∀(q:FO) (w1:World),q.New->Step S.hl (q.hl++S.hl) w w1->∃Z:SP,Z.s=w1.heap.size/\Z.New S tb/\Step S.hl Z.hl w (w1.alloc (.cells #[.pointer (some ⟨S.c,0,none⟩),.pointer (some ⟨q.f,0,none⟩)] 183))):=fun q w1 hq st=>by
  refine⟨⟨w1.heap.size,S,tb,q⟩,rfl,⟨rfl,rfl,hq⟩,?_⟩;refine(st.trans (st.sep.new 183 [ptr S.c,ptr q.f])).perm (J6v _) ?_;refine Q0X fun a=>?_
  simp only[SP.hl,SP.head,hc_append,hc_cons];omega
 clear h;go_enter func80,ntmps80;go_wp2_with fail;refine kf.mono ?_;rintro r w1⟨q,rfl,hq,st⟩;obtain⟨Z,e,h1,h2⟩:=HQ.out q w1 hq st;have HZ:Hid (Z.New S tb/\Step S.hl Z.hl w (w1.alloc (.cells #[.pointer (some ⟨S.c,0,none⟩),.pointer (some ⟨q.f,0,none⟩)] 183))):=⟨h1,h2⟩
 clear hq st h1 h2 HQ kf;go_wp2_with fail;have e2:Ending.returned (.pointer (some ⟨w1.heap.size,0,none⟩))=Ending.returned (.pointer (some ⟨Z.s,0,none⟩)):=by rw[e]
 (try go_ret);exact⟨Z,e2,HZ.out.1,HZ.out.2⟩
theorem SP.New.ok{Z:SP}{S:CO}{tb:Nat->TB}(h:Z.New S tb){fr:List Nat}{N K:Nat}(ok:S.Ok fr N K)(t:TPI S tb)(hn:∀i,i<256->(tb i).Nil):Z.Ok fr N K 0:=by
 have Bq:∀x s,Q0f S.l tb x s=none:=fun x s=>by
  unfold Q0f;split
  ·split
   ·rename_i hc;exact(hn _ (J6h _ (by omega))).2 s hc.2
   ·rfl
  ·rfl
 refine⟨by rw[h.S];exact ok,by rw[h.S,h.tb];exact t,?_,h.F.ok,by rw[h.F.next];exact J7c _⟩;rw[h.S,h.tb,h.F.N];exact⟨fun x s e he=>(by rw[Bq] at he;cases he),fun x s e he=>(by rw[Bq] at he;cases he),fun n hn=>(by cases hn),fun n hn=>by cases hn⟩
theorem TPI.emp{S:CO}{fr:List Nat}{N K:Nat}(ok:S.Ok fr N K)(h2:∀(i:Nat) (p:Pl),S.l[i]?=some p->¬(p.st=1/\p.kind=2))(h7:S.P.usedOf 7=[])(h6:S.P.usedOf 6=[])(hx:∀id,S.xc id=0):TPI S fun _=>TB.emp:=by
 have l0:Q1Z (fun _=>TB.emp)=[]:=by
  unfold Q1Z;simp only[TB.emp_nil.lists.1];generalize List.range 256=L
  induction L with
  | nil=>rfl
  | cons a r ih=>rw[J3E,ih];rfl
 have n0:Q2r (fun _=>TB.emp)=[]:=by
  unfold Q2r;simp only[TB.emp_nil.lists.2.1];generalize List.range 256=L
  induction L with
  | nil=>rfl
  | cons a r ih=>rw[J3E,ih];rfl
 refine⟨fun i p hi h1 hk=>absurd ⟨h1,hk⟩ (h2 i p hi),fun i _=>TB.emp_nil.full,fun i p _ _=>TB.emp_nil,by rw[l0,h7],by rw[n0,h6],fun id=>?_⟩;rw[hx];unfold xcOf;have:∀i,xcP (fun _=>TB.emp) id i S.l[i]?=0:=fun i=>by
  unfold xcP;split
  ·split
   ·exact TB.emp_nil.lists.2.2
   ·rfl
  ·rfl
 simp only[this];generalize List.range 256=L
 induction L with
 | nil=>rfl
 | cons a r ih=>rw[J3k,J6M];omega
end Go.Proofs.YtfidemmgofcnmaaGreatDoor
