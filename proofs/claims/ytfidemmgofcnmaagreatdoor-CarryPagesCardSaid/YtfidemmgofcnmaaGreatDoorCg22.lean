/- CarryPages returns true at every input. No condition. Part of its proof. -/
import Derived.Test.YtfidemmgofcnmaaGreatDoorCg21
set_option maxHeartbeats 16000000
set_option maxRecDepth 100000
set_option linter.unusedVariables false
namespace Go.Proofs.YtfidemmgofcnmaaGreatDoor
open Go.RowKit Go.Proofs.Tryz
def GtH(B b l:Nat)(rw ri:RV)(ws:List Nat)(its:List It):HL:=
 rowH rw 83 1 (ws.map encU)++(rowH ri 63 5 (its.flatMap It.cells)++[(B,isC 100 [.int .u64 l,lvOf rw ws.length,lvOf ri its.length]),(b,isC 100 [.int .u64 0,.slice none 0 0,.slice none 0 0])])
structure GtQ(B b l:Nat)(rw ri:RV)(ws:List Nat)(its:List It)(w wr:World):Prop where
 st:Step [] (GtH B b l rw ri ws its) w wr
 w:rvOk rw ws.length
 i:rvOk ri its.length
def MsgIs(x:Msg)(w:World)(r:Ending)(w':World):Prop:=∃rw ri,r=.returned (.agg #[.int .u64 (x.label:Int),lvOf rw x.ws.length,lvOf ri x.its.length])/\rvOk rw x.ws.length/\rvOk ri x.its.length/\Step [] (rowH rw 83 1 (x.ws.map encU)++rowH ri 63 5 (x.its.flatMap It.cells)) w w'
section
variable {B b l:Nat} {rw ri:RV} {ws:List Nat} {its:List It} {w wr w':World}
theorem Q4C:GtH B b l rw ri ws its=(rowH rw 83 1 (ws.map encU)++rowH ri 63 5 (its.flatMap It.cells))++[(B,isC 100 [.int .u64 l,lvOf rw ws.length,lvOf ri its.length]),(b,isC 100 [.int .u64 0,.slice none 0 0,.slice none 0 0])]:=by
 unfold GtH;rw[J0j]
theorem GtQ.box(h:GtQ B b l rw ri ws its w wr):Cells wr B 100 [.int .u64 l,lvOf rw ws.length,lvOf ri its.length]/\Cells wr b 100 [.int .u64 0,.slice none 0 0,.slice none 0 0]:=by
 have hs:=h.st.sep;rw[Q4C] at hs;exact⟨hs.cells (by simp),hs.cells (by simp)⟩
theorem GtQ.grown(h:GtQ B b l rw ri ws its w wr)(hb:Below wr.heap.size wr w'):GtQ B b l rw ri ws its w w':=⟨h.st.trans (h.st.sep.grown hb),h.w,h.i⟩
theorem GtQ.word(h:GtQ B b l rw ri ws its w wr)(hl:ws.length<=1000)(x:Nat)(ty:TypeId):∃rw' w',(Builtin.append_ #[82,82] ty #[lvOf rw ws.length,.slice (some ⟨wr.heap.size,0,none⟩) 1 1]).run prog (wr.alloc (.cells #[.int .u64 x] 83))=.ok (lvOf rw' (ws.length+1)) w' /\
  Cells w' B 100 [.int .u64 l,lvOf rw ws.length,lvOf ri its.length]/\GtQ B b l rw' ri (ws++[x]) its w (w'.setCell ⟨B,1,none⟩ (lvOf rw' (ws.length+1))):=by
 obtain⟨rw',w',hr,h1,h2⟩:=Z8a h.st.sep h.w hl x ty;have hs:=h2.sep;have e:rowH rw' 83 1 ((ws++[x]).map encU)++(rowH ri 63 5 (its.flatMap It.cells)++[(B,isC 100 [.int .u64 l,lvOf rw ws.length,lvOf ri its.length]),(b,isC 100 [.int .u64 0,.slice none 0 0,.slice none 0 0])])=(rowH rw' 83 1 ((ws++[x]).map encU)++rowH ri 63 5 (its.flatMap It.cells))++(B,isC 100 [.int .u64 l,lvOf rw ws.length,lvOf ri its.length])::[(b,isC 100 [.int .u64 0,.slice none 0 0,.slice none 0 0])]:=by rw[J0j]
 have Bi:=hs;rw[e] at Bi;have k:=Bi.set 1 (lvOf rw' (ws.length+1));refine⟨rw',w',hr,Bi.cells (by simp),?_,?_,h.i⟩
 ·have k2:Step _ _ w _:=(h.st.trans h2).trans (by rw[e];exact k);rw[Q4C]
  simpa[List.set] using k2
 ·rw[Z9V];exact h1
theorem GtQ.item(h:GtQ B b l rw ri ws its w wr)(hl:its.length<=1000)(x:It)(ty:TypeId):∃ri' w',(Builtin.append_ #[98,98] ty #[lvOf ri its.length,.slice (some ⟨wr.heap.size,0,none⟩) 1 1]).run prog (wr.alloc (.cells #[.int .i64 x.base,.int .i64 x.order,.int .i64 x.r,.int .i64 x.off,.bool x.g] 63))=.ok (lvOf ri' (its.length+1)) w' /\
  Cells w' B 100 [.int .u64 l,lvOf rw ws.length,lvOf ri its.length]/\GtQ B b l rw ri' ws (its++[x]) w (w'.setCell ⟨B,2,none⟩ (lvOf ri' (its.length+1))):=by
 have hp:(GtH B b l rw ri ws its).Perm (rowH ri 63 5 (its.flatMap It.cells)++(rowH rw 83 1 (ws.map encU)++[(B,isC 100 [.int .u64 l,lvOf rw ws.length,lvOf ri its.length]),(b,isC 100 [.int .u64 0,.slice none 0 0,.slice none 0 0])])):=by
  unfold GtH;rw[<- J0j,<- J0j];exact J1W _ J1X
 obtain⟨ri',w',hr,h1,h2⟩:=Z8b (h.st.sep.perm hp) h.i hl x ty;have e:rowH ri' 63 5 ((its++[x]).flatMap It.cells)++(rowH rw 83 1 (ws.map encU)++[(B,isC 100 [.int .u64 l,lvOf rw ws.length,lvOf ri its.length]),(b,isC 100 [.int .u64 0,.slice none 0 0,.slice none 0 0])])=(rowH ri' 63 5 ((its++[x]).flatMap It.cells)++rowH rw 83 1 (ws.map encU))++(B,isC 100 [.int .u64 l,lvOf rw ws.length,lvOf ri its.length])::[(b,isC 100 [.int .u64 0,.slice none 0 0,.slice none 0 0])]:=by rw[J0j]
 have Bi:=h2.sep;rw[e] at Bi;have k:=Bi.set 2 (lvOf ri' (its.length+1));refine⟨ri',w',hr,Bi.cells (by simp),?_,h.w,?_⟩
 ·have k1:Step [] _ w w':=(h.st.perm (J2A _) hp).trans h2;have k2:=k1.trans (by rw[e];exact k);refine k2.perm (J2A _) ?_;rw[Q4C];simp only[List.set];rw[Z9V];exact J1W _ J1X
 ·rw[Z9V];exact h1
theorem GtQ.done(h:GtQ B b l rw ri ws its w wr)(v0 v1 v2:Value):Step [] (rowH rw 83 1 (ws.map encU)++rowH ri 63 5 (its.flatMap It.cells)) w (((wr.setCell ⟨b,0,none⟩ v0).setCell ⟨b,1,none⟩ v1).setCell ⟨b,2,none⟩ v2):=by
 have hs:=h.st;rw[Q4C] at hs;have e:∀c,(rowH rw 83 1 (ws.map encU)++rowH ri 63 5 (its.flatMap It.cells))++[(B,isC 100 [.int .u64 l,lvOf rw ws.length,lvOf ri its.length]),(b,isC 100 c)]=((rowH rw 83 1 (ws.map encU)++rowH ri 63 5 (its.flatMap It.cells))++[(B,isC 100 [.int .u64 l,lvOf rw ws.length,lvOf ri its.length])])++(b,isC 100 c)::[]:=fun c=>by simp
 rw[e] at hs;have k0:=hs.trans (hs.sep.set 0 v0);have k1:=k0.trans (k0.sep.set 1 v1);have k2:=k1.trans (k1.sep.set 2 v2);refine k2.drop ?_;rw[J0j];exact Z9Z _ _
end
theorem Q6g{w w':World}(AJ:Env w)(hb:Below w.heap.size w w'):MsgIs Msg.none w (.returned (.agg #[.int .u64 0,.slice none 0 0,.slice none 0 0])) w':=⟨none,none,rfl,rfl,rfl,(Sep.nil AJ).grown hb⟩
theorem Q6N{m:List Nat}(hm:∀b∈m,b<256)(a:Nat):Q0j m a<18446744073709551616:=by
 have h:=Z6B ((m.drop a).take 8) (fun b hb=>hm b (J1M (J2D hb)));have h8:((m.drop a).take 8).length<=8:=by rw[J1C];omega
 refine Z9u h ?_
 calc 256 ^ ((m.drop a).take 8).length<=256 ^ 8:=J0x (by omega) h8
  _=18446744073709551616:=by decide
theorem Q1h(rv:RV)(k:Nat):∃a n c,lvOf rv k=.slice a n c:=by
 cases rv with
 | none=>exact⟨_,_,_,rfl⟩
 | some p=>exact⟨_,_,_,rfl⟩
def wsK(m:List Nat)(a k:Nat):List Nat:=(List.range k).map fun i=>Q0o m a (3+i)
theorem Q2j(m:List Nat)(a k:Nat):(wsK m a k).length=k:=by simp[wsK]
theorem Z6g(m:List Nat)(a k:Nat):wsK m a (k+1)=wsK m a k++[Q0o m a (3+k)]:=by simp[wsK,List.range_succ]
theorem Q4f(m:List Nat)(a:Nat):∀k l,itemsB m a k=some l->l.length=k
 | 0,l,h=>by cases h;rfl
 | k+1,l,h=>by
  rw[itemsB] at h;cases h1:itemsB m a k with
  | none=>rw[h1] at h;cases h
  | some l1 =>
   rw[h1] at h;cases h2:Q4d (Q0o m a (11+k)) with
   | none=>rw[h2] at h;cases h
   | some i =>
    rw[h2] at h;cases h;rw[Z9V,Q4f m a k l1 h1];rfl
theorem Q8E(m:List Nat)(a k j:Nat)(h:itemsB m a k=none)(hk:k<=j):itemsB m a j=none:=by
 induction j with
 | zero =>
  obtain rfl:k=0:=by omega
  exact h
 | succ j ih =>
  by_cases e:k=j+1
  ·rw[<- e];exact h
  ·rw[itemsB,ih (by omega)]
theorem Q5o{w:World}{Z:SP}{fr:List Nat}{N K:Nat}{M:Int}(ok:Z.Ok fr N K M)(h:Sep w Z.hl){p:Pl}(hp:p∈Z.S.l)(hi:p.is=true)(AQ:p.kind=3){g:Nat}(hb:BlkC Z p g w) :
  Calls prog 116 #[.pointer (some ⟨g,0,none⟩)] w (MsgIs (msgV Z.S.P.a.mem p.at_) w):=by
 have AJ:=h.env;have HL:Hid (∀(V:World) (i:Nat),Below w.heap.size w V->i<=31->Calls prog 184 #[.pointer (some ⟨g,0,none⟩),.int .i64 i] V fun r w'=>r=.returned (.int .u64 (Q0o Z.S.P.a.mem p.at_ i:Nat))/\V.drew=w'):=fun V i hV h31=>Q6e ok (h.grown hV).sep hp hi AQ (AsideV.step hb (h.grown hV)) i h31
 have HW:Hid (∀i,Q0o Z.S.P.a.mem p.at_ i<18446744073709551616):=fun i=>Q6N ok.core.inv.mem.pool.bytes _
 clear ok h hp hi AQ hb;generalize Z.S.P.a.mem=m at *
 generalize p.at_=a at *
 obtain⟨X,hX⟩:∃X,X=msgV m a:=⟨_,rfl⟩
 rw[<- hX];obtain⟨x0,Ct⟩:∃x,x=Q0o m a 0:=⟨_,rfl⟩
 obtain⟨n,hn⟩:∃n,n=x0%16:=⟨_,rfl⟩
 obtain⟨kk,CZ⟩:∃n,n=x0/16:=⟨_,rfl⟩
 obtain⟨x1,Gk⟩:∃x,x=Q0o m a 1:=⟨_,rfl⟩
 have JN:x0<18446744073709551616:=by rw[Ct];exact HW.out 0
 unfold msgV at hX;rw[<- Ct,<- Gk,<- hn,<- CZ] at hX;have Mu:Hid (8<n∨2<kk->X=Msg.none):=fun hc=>by rw[hX,if_pos hc]
 have LG:Hid (¬(8<n∨2<kk)->(itemsB m a kk=none->X=Msg.none)/\∀l,itemsB m a kk=some l->X=⟨x1,wsK m a n,l⟩):=fun hc=>by
  rw[hX,if_neg hc];exact⟨fun e=>by rw[e],fun l e=>by rw[e];rfl⟩
 have e1:=Q2K x0 15 4 JN rfl (by omega);rw[show(2:Nat) ^ 4=16 from rfl,<- hn] at e1;have d1:bits BinOp.and IntKind.u64 (x0:Int) 15=(n:Int):=e1;have d2:(x0:Int)/16=(kk:Int):=by rw[CZ];omega
 have w1:wrap64 (n:Int)=(n:Int):=Go.IntWalk.wrap64_in _ (by omega);have w2:wrap64 (kk:Int)=(kk:Int):=Go.IntWalk.wrap64_in _ (by omega);have HE:Hid (∀V,Below w.heap.size w V->∀v0 v1 v2,X=Msg.none->MsgIs X w (.returned (.agg #[.int .u64 0,.slice none 0 0,.slice none 0 0])) (((V.setCell ⟨w.heap.size,0,none⟩ v0).setCell ⟨w.heap.size,1,none⟩ v1).setCell ⟨w.heap.size,2,none⟩ v2)):=fun V hV v0 v1 v2 e=>by
  rw[e];exact Q6g AJ (((hV.setCell (Z9s _) _).setCell (Z9s _) _).setCell (Z9s _) _)
 have DZ:Hid (∀V,Below w.heap.size w V->X=Msg.none->MsgIs X w (.returned (.agg #[.int .u64 0,.slice none 0 0,.slice none 0 0])) V):=fun V hV e=>by
  rw[e];exact Q6g AJ hV
 have B7:Hid (Below w.heap.size w (w.alloc (.cells #[.int .u64 0,.slice none 0 0,.slice none 0 0] 100))):=(Below.refl _ _).alloc (Z9s _) _;have FC:Hid (∀V,Below w.heap.size w V->Calls prog 184 #[.pointer (some ⟨g,0,none⟩),.int .i64 0] V fun r w'=>r=.returned (.int .u64 x0)/\V.drew=w'):=fun V hV=>by
  have:=HL.out V 0 hV (by omega)
  rwa [<- Ct] at this
 have Fn:Hid (∀V,Below w.heap.size w V->Calls prog 184 #[.pointer (some ⟨g,0,none⟩),.int .i64 1] V fun r w'=>r=.returned (.int .u64 x1)/\V.drew=w'):=fun V hV=>by
  have:=HL.out V 1 hV (by omega)
  rwa [<- Gk] at this
 have Av:GtQ (w.heap.size+1) w.heap.size x1 none none [] [] w ((w.alloc (.cells #[.int .u64 0,.slice none 0 0,.slice none 0 0] 100)).drew.drew.drew.alloc (.cells #[.int .u64 x1,.slice none 0 0,.slice none 0 0] 100)):=by
  have s1:=((Sep.nil AJ).new 100 [.int .u64 0,.slice none 0 0,.slice none 0 0]).drew.drew.drew;have s2:=s1.trans (s1.sep.new 100 [.int .u64 x1,.slice none 0 0,.slice none 0 0]);have e:((w.alloc (.cells [.int .u64 0,.slice none 0 0,.slice none 0 0].toArray 100)).drew.drew.drew.heap.size)=w.heap.size+1:=by simp
  refine⟨?_,rfl,rfl⟩;rw[e] at s2;exact s2
 have Cs:=Q0a Av;have c1:=(Cells.new w 100 [.int .u64 0,.slice none 0 0,.slice none 0 0])
 have f0:=c1.free 0;have f1:=c1.free 1;have f2:=c1.free 2;have g0:=c1.cell 0 _ rfl;have g1:=c1.cell 1 _ rfl;have g2:=c1.cell 2 _ rfl;have Aa:=c1.lt;clear Av hX JN e1 AJ c1 hn CZ;by_cases hc:8<n∨2<kk
 ·have HR:=Q0a (DZ.out _ B7.out.drew.drew (Mu.out hc));clear Mu LG HE DZ HL HW Cs Fn Ct Gk;by_cases HU:8<n
  ·have JU:(8:Int)<(n:Int):=by omega
   have hd:decide ((8:Int)<(n:Int))=true:=decide_eq_true JU;have D4:decide (8<n)=true:=decide_eq_true HU;go_enter func116,ntmps116;go_wp2_with fail;refine(FC.out _ B7.out).mono ?_;rintro r w'⟨rfl,rfl⟩;go_wp2_with fail;refine(FC.out _ B7.out.drew).mono ?_;rintro r w'⟨rfl,rfl⟩;go_wp2_with fail;refine bodyPost_ret (v:=.agg #[.int .u64 0,.slice none 0 0,.slice none 0 0]) (by simp[results,results116,go_sem,g0,g1,g2]) rfl HR.out
  ·have An:2<kk:=by omega
   have Kd:(2:Int)<(kk:Int):=by omega
   have hd:decide ((8:Int)<(n:Int))=false:=decide_eq_false (by omega);have D4:decide (8<n)=false:=decide_eq_false HU;have FK:decide ((2:Int)<(kk:Int))=true:=decide_eq_true Kd;have I5:decide (2<kk)=true:=decide_eq_true An;go_enter func116,ntmps116;go_wp2_with fail;refine(FC.out _ B7.out).mono ?_;rintro r w'⟨rfl,rfl⟩;go_wp2_with fail;refine(FC.out _ B7.out.drew).mono ?_;rintro r w'⟨rfl,rfl⟩;go_wp2_with fail;refine bodyPost_ret (v:=.agg #[.int .u64 0,.slice none 0 0,.slice none 0 0]) (by simp[results,results116,go_sem,g0,g1,g2]) rfl HR.out
 ·have JA:=Q0a (LG.out hc);have HU:n<=8:=by omega
  have An:kk<=2:=by omega
  have JU:(n:Int)<=8:=by omega
  have Kd:(kk:Int)<=2:=by omega
  have hd:decide ((8:Int)<(n:Int))=false:=decide_eq_false (by omega);have D4:decide (8<n)=false:=decide_eq_false (by omega);have FK:decide ((2:Int)<(kk:Int))=false:=decide_eq_false (by omega);have I5:decide (2<kk)=false:=decide_eq_false (by omega);have HN:Hid (n<=8/\kk<=2):=⟨HU,An⟩
  clear Mu LG hc Ct Gk;go_enter func116,ntmps116;go_wp2_with fail;refine(FC.out _ B7.out).mono ?_;rintro r w'⟨rfl,rfl⟩;go_wp2_with fail;refine(FC.out _ B7.out.drew).mono ?_;rintro r w'⟨rfl,rfl⟩;go_wp2_with fail;refine(Fn.out _ B7.out.drew.drew).mono ?_;rintro r w'⟨rfl,rfl⟩;go_wp2_with fail;clear d1 d2 f0 f1 f2 g0 g1 g2 Aa hd D4 FK I5 w1
  go_loopg [31] n (fun gk iv wr=>∃(k:Nat) (rw:RV),iv=.int .i64 k/\k+gk=n/\GtQ (w.heap.size+1) w.heap.size x1 rw none (wsK m a k) [] w wr)
  case atStart=>exact⟨0,none,rfl,by omega,Cs.out⟩
  case round =>
   clear Cs;obtain⟨k,rw_,rfl,Cc,hq⟩:=hrel;have HQ:=Q0a hq;have DD:=Q0a Cc;clear Cc;have Bb:=hq.st.fresh;have DY:=Q0a Bb;by_cases Aa:k<n
   ·have Cu:(k:Int)<(n:Int):=by omega
    have Bp:(0:Int)<=(k:Int):=by omega
    have kl:=HL.out wr.drew (3+k) Bb.drew (by omega);rw[show((3+k:Nat):Int)=IntKind.i64.wrap (3+(k:Int)) by rw[Go.IntWalk.i64_in _ (by omega)];omega] at kl;obtain⟨rw2,w9,AP,EF,Fd⟩:=(hq.grown ((Below.refl _ _).drew.drew)).word (by rw[Q2j];omega) (Q0o m a (3+k)) 82;rw[Q2j] at AP EF Fd;rw[<- Z6g] at Fd;have Ki:=Fd.w;rw[Q2j] at Ki;obtain⟨va,vc,hV⟩:∃a c,lvOf rw2 (k+1)=.slice a (k+1) c:=by
     cases rw2 with
     | none=>cases Ki
     | some q=>exact⟨_,_,rfl⟩
    rw[hV] at AP Fd;have HA:Hid ((Builtin.append_ #[82,82] 82 #[lvOf rw_ k,.slice (some ⟨wr.heap.size,0,none⟩) 1 1]).run prog ((wr.alloc (.cells #[.int .u64 (Q0o m a (3+k):Int)] 83)).drew.drew)=.ok (.slice va (k+1) vc) w9):=AP;have HR:=Q0a Fd;obtain⟨hB,_⟩:=hq.box;rw[Q2j] at hB;have b1:=hB.cell 1 _ rfl;have b2:=(hB.alloc (.cells #[.int .u64 (Q0o m a (3+k):Int)] 83)).cell 1 _ rfl;have b0:=EF.cell 1 _ rfl;have bf:=EF.free 1;have bl:=EF.lt;have AT:=Q0a Aa;clear hq Fd Ki AP Bb hV hB EF;generalize lvOf rw_ k=u at *
    generalize Q0o m a (3+k)=xk at *
    have QN:=Q0a kl;clear kl HL HW HE DZ JA DY FC Fn B7;go_wp2_with fail
    go_region_law (first|(go_simp;go_at_call 184;refine QN.out.mono ?_;rintro r w'⟨rfl,rfl⟩)|(refine Q0R rfl (.tmp 35) (.tmp 40) 82 82 rfl _ _ (by simp[Act.eval]) (by simp[Act.eval]) HA.out ?_))
    all_goals
     go_wp2_with fail;go_roundg (n-(k+1))
     case measure=>have:=DD.out;have:=AT.out;omega
     case rel=>exact⟨k+1,rw2,by go_num,by have:=AT.out;omega,HR.out⟩
   ·obtain rfl:k=n:=by have:=DD.out;omega
    have FX:=Q0a (Q2j m a k);clear hq DY;go_wp2_with fail;obtain⟨wo,rfl⟩:∃wo:World,wo=wr:=⟨_,rfl⟩
    go_loopg [46] kk (fun gk iv wi=>∃(j:Nat) (ri:RV) (its:List It),iv=.int .i64 j/\j+gk=kk/\itemsB m a j=some its/\GtQ (w.heap.size+1) w.heap.size x1 rw_ ri (wsK m a k) its w wi)
    case atStart=>exact⟨0,none,[],rfl,by omega,rfl,HQ.out⟩
    case round =>
     clear HQ;obtain⟨j,ri,its,rfl,Cc,D8,hq⟩:=hrel;have HQ:=Q0a hq;have Ep:=Q0a Cc;have FY:=Q0a D8;have FG:=Q4f m a j its D8;have Hl:=Q0a FG;obtain⟨hB,hb⟩:=hq.box;rw[Q2j,FG] at hB;have B0:=hB.cell 0 _ rfl;have B1:=hB.cell 1 _ rfl;have B2:=hB.cell 2 _ rfl;have DY:=Q0a hq.st.fresh;clear Cc D8;by_cases Aa:j<kk
     ·have Ia:(j:Int)<(kk:Int):=by omega
      have Eb:(0:Int)<=(j:Int):=by omega
      have Rv:IntKind.i64.wrap (11+(j:Int))=11+(j:Int):=Go.IntWalk.i64_in _ (by omega);have kl:=HL.out wr (11+j) DY.out (by omega);rw[show((11+j:Nat):Int)=11+(j:Int) by omega] at kl;have ki:=Z1b wr.drew (Q0o m a (11+j)) (HW.out _);have AT:=Q0a Aa;clear hq hB hb B0 B1 B2 FG;have Ci:Hid (itemsB m a (j+1)=match Q4d (Q0o m a (11+j)) with|some i=>some (its++[i])|none=>none):=by
       refine Q0a ?_;rw[itemsB,FY.out];cases Q4d (Q0o m a (11+j)) <;> rfl
      unfold Z6f at ki;generalize Q0o m a (11+j)=xj at *
      have Nz:=Q0a ki;clear ki;go_wp2_with fail;refine kl.mono ?_;rintro r w'⟨rfl,rfl⟩;clear kl;go_wp2_with fail;refine Nz.out.mono ?_;intro r w5 hr;obtain⟨hr,Ay⟩:=hr;have Bs:=Q0a ((Below.refl wr.heap.size wr).drew.trans (Ay.mono (Z9s _)));clear Ay Nz;cases Hs:Q4d xj with
      | none =>
       rw[Hs] at hr Ci;dsimp only at hr Ci;subst hr;have hX:X=Msg.none:=JA.out.1 (Q8E m a (j+1) kk Ci.out (by omega));have Hc:=Q0a (DY.out.trans (Bs.out.mono DY.out.size));have HR:=Q0a (DZ.out _ (Hc.out.alloc Hc.out.size (.cells #[.int .i64 0,.int .i64 0,.int .i64 0,.int .i64 0,.bool false] 63)) hX);have CT:=Q0a (HE.out _ (Hc.out.alloc Hc.out.size (.cells #[.int .i64 0,.int .i64 0,.int .i64 0,.int .i64 0,.bool false] 63)) (.int .u64 0) (.slice none 0 0) (.slice none 0 0) hX);have Ay:=((HQ.out.grown Bs.out).box.2).alloc (.cells #[.int .i64 0,.int .i64 0,.int .i64 0,.int .i64 0,.bool false] 63)
       have g0:=Ay.cell 0 _ rfl;have g1:=Ay.cell 1 _ rfl;have g2:=Ay.cell 2 _ rfl;have f0:=Ay.free 0;have f1:=Ay.free 1;have f2:=Ay.free 2;have PY:=Ay.lt;clear Ay hX HE DZ JA Ci FY HQ;go_wp2_with fail
       first
        | refine bodyPost_ret (v:=.agg #[.int .u64 0,.slice none 0 0,.slice none 0 0]) (by simp[results,results116,go_sem,g0,g1,g2]) rfl HR.out
        | refine bodyPost_ret (v:=.agg #[.int .u64 0,.slice none 0 0,.slice none 0 0]) (by simp[results,results116,go_sem,g0,g1,g2]) rfl CT.out
      | some i =>
       rw[Hs] at hr Ci;dsimp only at hr Ci;subst hr;have b6:=Bs.out.alloc Bs.out.size (.cells #[.int .i64 i.base,.int .i64 i.order,.int .i64 i.r,.int .i64 i.off,.bool i.g] 63);have q6:=HQ.out.grown b6;obtain⟨ri2,w9,AP,EF,Fd⟩:=q6.item (by rw[Hl.out];omega) i 98;have GD:(w5.alloc (.cells #[.int .i64 i.base,.int .i64 i.order,.int .i64 i.r,.int .i64 i.off,.bool i.g] 63)).heap.size=w5.heap.size+1:=by simp
       rw[GD,Hl.out] at AP;rw[Q2j,Hl.out] at EF;have e9:(its++[i]).length=j+1:=by rw[Z9V,Hl.out];rfl
       rw[Hl.out] at Fd;have Mp:=q6.box.1;rw[Q2j,Hl.out] at Mp;have B2:=Mp.cell 2 _ rfl;have b2:=EF.cell 2 _ rfl;have bf:=EF.free 2;have bl:=EF.lt;have ci:=Cells.new w5 63 [.int .i64 i.base,.int .i64 i.order,.int .i64 i.r,.int .i64 i.off,.bool i.g];have i0:=ci.cell 0 _ rfl;have i1:=ci.cell 1 _ rfl;have i2:=ci.cell 2 _ rfl;have i3:=ci.cell 3 _ rfl;have i4:=ci.cell 4 _ rfl;obtain⟨va,vn,vc,hV⟩:=Q1h ri2 (j+1);rw[hV] at AP Fd;have HR:=Q0a Fd;generalize lvOf ri j=u at *
       clear hV EF Fd Mp q6 b6 GD ci e9 HE DZ;go_wp2_with (at_builtin;refine Lib.wpList_append_run _ rfl _ _ _ _ rfl _ _ rfl rfl _ _ AP ?_);go_roundg (kk-(j+1))
       case measure=>have:=Ep.out;have:=AT.out;omega
       case rel=>exact⟨j+1,ri2,its++[i],by go_num,by have:=AT.out;omega,Ci.out,HR.out⟩
     ·obtain rfl:j=kk:=by have:=Ep.out;omega
      have hX:=JA.out.2 its FY.out;have HR:Hid (MsgIs X w (.returned (.agg #[.int .u64 x1,lvOf rw_ k,lvOf ri j])) (((wr.setCell ⟨w.heap.size,0,none⟩ (.int .u64 x1)).setCell ⟨w.heap.size,1,none⟩ (lvOf rw_ k)).setCell ⟨w.heap.size,2,none⟩ (lvOf ri j))):=by
       rw[hX];refine⟨rw_,ri,?_,hq.w,hq.i,hq.done _ _ _⟩;dsimp only;rw[Q2j,FG]
      have g0:=hb.cell 0 _ rfl;have g1:=hb.cell 1 _ rfl;have g2:=hb.cell 2 _ rfl;have f0:=hb.free 0;have f1:=hb.free 1;have f2:=hb.free 2;have PY:=hb.lt;obtain⟨va,vn,vc,hV⟩:=Q1h rw_ k;obtain⟨xa,xn,xc,Hr⟩:=Q1h ri j;rw[hV] at B1;rw[Hr] at B2;rw[hV,Hr] at HR;clear hV Hr;clear hq hB hb hX HE DZ JA HL HW FY HQ DY FG Hl FX;go_wp2_with fail;refine bodyPost_ret (v:=.agg #[.int .u64 x1,.slice va vn vc,.slice xa xn xc]) (by simp[results,results116,go_sem,g0,g1,g2]) rfl HR.out
def IsU(w:World)(a:Option Addr)(ws:List Nat):Prop:=∀(j y:Nat),ws[j]?=some y->∃g o,a=some ⟨g,o,none⟩/\g<w.heap.size/\w.cell? ⟨g,o+j,none⟩=some (.int .u64 y)
def IsI(w:World)(a:Option Addr)(its:List It):Prop:=∀(j:Nat) (i:It),its[j]?=some i->∃g o,a=some ⟨g,o,none⟩/\g<w.heap.size/\∀(c:Nat) (v:Value),i.cells[c]?=some v->w.cell? ⟨g,o+j*5+c,none⟩=some v
theorem IsU.below{w w':World}{a:Option Addr}{ws:List Nat}(h:IsU w a ws)(hb:Below w.heap.size w w'):IsU w' a ws:=fun j y hj=>by
 obtain⟨g,o,e,hg,hc⟩:=h j y hj;exact⟨g,o,e,Z9u hg hb.size,(World.cell?_of_block (w:=w) (hb.block g hg)).trans hc⟩
theorem IsI.below{w w':World}{a:Option Addr}{its:List It}(h:IsI w a its)(hb:Below w.heap.size w w'):IsI w' a its:=fun j y hj=>by
 obtain⟨g,o,e,hg,hc⟩:=h j y hj;exact⟨g,o,e,Z9u hg hb.size,fun c v hv=>(World.cell?_of_block (w:=w) (hb.block g hg)).trans (hc c v hv)⟩
def arrL(ws cs:List Nat):List Nat:=(ws++List.replicate (8-ws.length) 0)++(cs++List.replicate (2-cs.length) 0)
theorem Z6h{ws cs:List Nat}(h:ws.length<=8)(h2:cs.length<=2):(arrL ws cs).length=10:=by simp[arrL];omega
theorem Z6i{ws cs:List Nat}(h:ws.length<=8)(h2:cs.length<2)(y:Nat):(arrL ws cs).set (8+cs.length) y=arrL ws (cs++[y]):=by
 unfold arrL;have hl:(ws++List.replicate (8-ws.length) 0).length=8:=by simp;omega
 rw[J2W _ _ (by rw[hl];omega),hl,show 8+cs.length-8=cs.length by omega,J2W _ _ (Z9s _),J2y];obtain⟨r,hr⟩:∃r,2-cs.length=r+1:=⟨1-cs.length,by omega⟩
 have CS:2-(cs++[y]).length=r:=by rw[Z9V];simp;omega
 rw[hr,CS,J3e,J1V];simp
theorem Z3M(ws:List Nat)(its:List It):arrL ws (its.map Q1s)=Q3q ws its:=by unfold arrL Q3q;rw[J0S]
abbrev z10:List Value:=[.int .u64 0,.int .u64 0,.int .u64 0,.int .u64 0,.int .u64 0,.int .u64 0,.int .u64 0,.int .u64 0,.int .u64 0,.int .u64 0]
theorem Z3N:(prog.info? 83).map (·.size)=some 1:=by kernel_rfl
theorem Q6O{B g:Nat}{w0 w:World}(hb:Below B w0 w)(hBg:B<=g)(cs:Array Value):Below B w0 (w.setRow g cs):=
 ⟨hb.os,hb.tape,hb.output,by rw[setRow_size];exact hb.size,fun k hk=>by rw[setRow_other _ _ _ _ (by omega)];exact hb.block k hk⟩
theorem Z1c{w:World}{B:Nat}{wa:Option Addr}{ws:List Nat}(wc:Nat)(hB:Cells w B 314 z10)(h8:ws.length<=8)(hu:IsU w wa ws) :
  ∃w',(∀ty,(Builtin.copy_ #[82,82] ty #[.slice (some ⟨B,0,none⟩) 10 10,.slice wa ws.length wc]).run prog w=.ok (.int .i64 (ws.length:Int)) w')/\Cells w' B 314 ((arrL ws []).map encU)/\∀b0,b0<=B->∀w0,Below b0 w0 w->Below b0 w0 w':=by
 by_cases h0:ws.length=0
 ·obtain rfl:ws=[]:=J1i.1 h0;exact⟨w,fun ty=>run_copy_none (P:=prog) w 82 82 ty 83 (some ⟨B,0,none⟩) wa 10 10 0 wc underlying82 Z3N (by simp),hB,fun _ _ _ h=>h⟩
 ·obtain⟨g,o,rfl,_,_⟩:=hu 0 ws[0] (J1A (by omega));have k:=fun ty=>Q1T (P:=prog) w 82 82 ty 83 1 B 0 10 10 ⟨g,o,none⟩ ws.length wc ws.length z10.toArray 314 (ws.map encU) underlying82 Z3N hB (by simp[Nat.min_def];omega) (by simp) (fun j v hj=>by
   rw[J0U] at hj;cases hy:ws[j]? with
   | none=>rw[hy] at hj;cases hj
   | some y =>
    rw[hy] at hj;cases hj;obtain⟨g',o',e,_,hc⟩:=hu j y hy;cases e;have e2:(⟨g,o,none⟩:Addr).add j=⟨g,o+j,none⟩:=by unfold Addr.add;split <;> simp_all
    rw[e2];exact hc) (by simp;omega) (fun v hv=>by
   obtain⟨y,_,rfl⟩:=Z9y.1 hv;rfl)
  refine⟨_,k,?_,fun b0 BU w0 hw=>Q6O hw BU _⟩;have e:(z10.toArray.toList.take 0++ws.map encU++z10.toArray.toList.drop (0+(ws.map encU).length))=(arrL ws []).map encU:=by
   simp only[J2H,J1t,J0S,J1N];unfold arrL;have hd:z10.toArray.toList.drop ws.length=List.replicate (10-ws.length) (encU 0):=by
    show(List.replicate 10 (encU 0)).drop ws.length=_;rw[List.drop_replicate]
   rw[hd,J2J,J2J,J2J,List.map_replicate,List.map_replicate];simp only[J1P,J1t,J1I,Nat.sub_zero,J0j];rw[List.replicate_append_replicate,show 8-ws.length+2=10-ws.length by omega]
  rw[e];exact setRow_heap w B _ _ _ _ hB
def PutE(ws:List Nat)(its:List It):Prop:=8<ws.length∨2<its.length∨∃i∈its,Q0Q i=false
def Q8F(Z:SP)(fr:List Nat)(N K:Nat)(M:Int)(p:Pl)(x:Msg)(w:World)(r:Ending)(w':World):Prop:=
 (PutE x.ws x.its/\r=.returned (.int .i64 1)/\Below w.heap.size w w') ∨
 (x.May/\r=.returned (.int .i64 0)/\(Z.poke (putM Z.S.P.a.mem p.at_ x)).Ok fr N K M/\Step Z.hl (Z.poke (putM Z.S.P.a.mem p.at_ x)).hl w w')
theorem Z3O{w wr:World}{Z:SP}{fr:List Nat}{N K:Nat}{M:Int}(ok:Z.Ok fr N K M)(h:Sep w Z.hl){p:Pl}(hp:p∈Z.S.l)(hi:p.is=true)(AQ:p.kind=3){g B:Nat}(hb:BlkC Z p g w){x:Msg}(hm:x.May)(hB:Cells wr B 314 ((Q3q x.ws x.its).map encU))(hBk:w.heap.size<=B)(hwr:Below w.heap.size w wr) :
  Calls prog 57 #[.pointer (some ⟨Z.S.P.a.a,0,none⟩),.int .i64 ((p.at_+8*0:Nat):Int),.slice (some ⟨wr.heap.size,0,none⟩) 2 2] (wr.drew.alloc (.cells #[.int .u64 ((x.ws.length+16*x.its.length:Nat):Int),.int .u64 (x.label:Int)] 83)) fun r w2=>r=.returned (.int .i64 0) /\
   (w2.cell? ⟨g,0,none⟩=some (.pointer (some ⟨Z.S.P.a.a,0,none⟩))/\w2.cell? ⟨g,1,none⟩=some (.int .i64 (p.at_:Int))) /\
   Calls prog 57 #[.pointer (some ⟨Z.S.P.a.a,0,none⟩),.int .i64 ((p.at_+8*3:Nat):Int),.slice (some ⟨B,0,none⟩) 10 10] w2.drew fun r w3=>r=.returned (.int .i64 0)/\w3.cell? ⟨g,0,none⟩=some (.pointer (some ⟨Z.S.P.a.a,0,none⟩))/\Q8F Z fr N K M p x w (.returned (.int .i64 0)) w3:=by
 have h1:=h.grown hwr;have CY:wr.heap.size∉keys Z.hl:=fun hk=>by have:=h.lt hk;have:=hwr.size;omega
 have hA:∀b∈keys Z.S.P.a.hl,b∈keys Z.hl:=fun b hk=>by
  have e:∃o,(b,o)∈Z.S.P.a.hl:=by
   obtain⟨q,hq,rfl⟩:=Z9y.1 hk;exact⟨q.2,hq⟩
  obtain⟨o,ho⟩:=e;exact Z9y.2 ⟨(b,o),by simp only[SP.hl,CO.hl,PL.hl,Z9x,Z9Y];simp[ho],rfl⟩
 have b2:Below wr.heap.size wr (wr.drew.alloc (.cells #[.int .u64 ((x.ws.length+16*x.its.length:Nat):Int),.int .u64 (x.label:Int)] 83)):=(Below.refl wr.heap.size wr).drew.alloc (Z9s _) _;have h2:=h1.trans (h1.sep.grown b2);have cN:=Cells.new wr.drew 83 [.int .u64 ((x.ws.length+16*x.its.length:Nat):Int),.int .u64 (x.label:Int)];have Nk:x.ws.length+16*x.its.length<18446744073709551616:=by have:=hm.few;have:=hm.two;omega
 refine(Q3N ok h2.sep hp hi (.inl AQ) (o:=8*0) (by omega) (ws:=[x.ws.length+16*x.its.length,x.label]) (by rw[AQ];show 8*0+8*2<=256;omega) (fun y hy=>by
  rcases Z9x.1 hy with rfl|hy
  ·exact Nk
  ·rw[J1q.1 hy];exact hm.label) (some ⟨wr.heap.size,0,none⟩) 2 (fun wq hc j y hj=>by
   have cq:=cN.same (hc.block _ cN.lt (fun hk=>CY (hA _ hk)));refine⟨_,rfl,?_⟩;rw[addp,J1N]
   match j,hj with
   | 0,hj=>cases hj;exact cq.cell 0 _ rfl
   | 1,hj=>cases hj;exact cq.cell 1 _ rfl)).mono ?_
 rintro r w2⟨rfl,ok2,st2⟩;have Ae:=AsideV.step (AsideV.step hb h2) st2;have NE:=hB.lt;have NZ:B∉keys Z.hl:=fun hk=>by have:=h.lt hk;omega
 have cB:=(hB.same (b2.block _ NE)).same (st2.chg.block _ (Z9u NE b2.size) NZ);obtain⟨g0,e0,_,_,z0⟩:=Ae 0 _ rfl;obtain⟨g1,e1,_,_,z1⟩:=Ae 1 _ rfl;cases e0;cases e1;refine⟨rfl,⟨z0,z1⟩,?_⟩;have OW:=Q7P hm.few hm.two;have k:=Q3N (Z:=Z.stored p (8*0) [x.ws.length+16*x.its.length,x.label]) ok2 st2.sep.drew hp hi (.inl AQ) (o:=8*3) (by omega) (ws:=Q3q x.ws x.its) (by rw[AQ,OW];show 8*3+8*10<=256;omega) (Q9D hm) (some ⟨B,0,none⟩) 10 (fun wq hc j y hj=>by
   have Q0:B∉keys Z.S.P.a.hl:=fun hk=>NZ (hA _ hk)
   have cq:Cells wq B 314 ((Q3q x.ws x.its).map encU):=cB.same (hc.block _ cB.lt Q0);refine⟨_,rfl,?_⟩;rw[addp,J1N];exact cq.cell j _ (by rw[J0U,hj];rfl))
 rw[OW] at k;refine k.mono ?_;rintro r w3⟨rfl,ok3,st3⟩;obtain⟨g3,e3,_,_,z3⟩:=AsideV.step Ae st3.from_drew 0 _ rfl;cases e3;refine⟨rfl,z3,.inr ⟨hm,rfl,ok3,?_⟩⟩;exact(h2.trans st2).trans st3.from_drew
theorem Q7R{w:World}{Z:SP}{fr:List Nat}{N K:Nat}{M:Int}(ok:Z.Ok fr N K M)(h:Sep w Z.hl){p:Pl}(hp:p∈Z.S.l)(hi:p.is=true)(AQ:p.kind=3){g:Nat}(hb:BlkC Z p g w)(x:Msg)(hx:x.label<18446744073709551616)(Ed:∀y∈x.ws,y<18446744073709551616){wa ia:Option Addr}(wc ic:Nat)(hu:IsU w wa x.ws)(ET:IsI w ia x.its)(Hb:x.ws.length<=1048576)(Iq:x.its.length<=1048576) :
  Calls prog 181 #[.pointer (some ⟨g,0,none⟩),.int .u64 (x.label:Int),.slice wa x.ws.length wc,.slice ia x.its.length ic] w (Q8F Z fr N K M p x w):=by
 obtain⟨lb,ws,its⟩:=x;dsimp only at *
 have hr:=Q1c ok.core hp hi (.inl AQ);have Cr:=Q0f ok.core.inv.mem.pool;rw[AQ,show costK 3=256 from rfl] at hr;by_cases hE:8<ws.length∨2<its.length
 ·have HR:Hid (Q8F Z fr N K M p ⟨lb,ws,its⟩ w (.returned (.int .i64 1)) w):=.inl ⟨by rcases hE with h|h;exact .inl h;exact .inr (.inl h),rfl,Below.refl _ _⟩;generalize ws.length=nW at *
  generalize its.length=nI at *
  clear ok h hp hi AQ hb hu ET hr Cr;have P7:(nW:Int)<=1048576:=by omega
  have Ce:(nI:Int)<=1048576:=by omega
  by_cases h8:8<nW
  ·have hd:decide ((8:Int)<(nW:Int))=true:=decide_eq_true (by omega);have D4:decide (8<nW)=true:=decide_eq_true h8;go_enter func181,ntmps181;go_wp2_with fail
   (try go_ret);exact HR.out
  ·have hd:decide ((8:Int)<(nW:Int))=false:=decide_eq_false (by omega);have D4:decide (8<nW)=false:=decide_eq_false h8;have FK:decide ((2:Int)<(nI:Int))=true:=decide_eq_true (by omega);have I5:decide (2<nI)=true:=decide_eq_true (by omega);go_enter func181,ntmps181;go_wp2_with fail
   (try go_ret);exact HR.out
 ·have h8:ws.length<=8:=by omega
  have h2:its.length<=2:=by omega
  have b1:Below w.heap.size w (w.alloc (.cells z10.toArray 314)):=(Below.refl _ _).alloc (Z9s _) _;obtain⟨V1,DJ,N6,Ms⟩:=Z1c wc (Cells.new w 314 z10) h8 (hu.below b1);have NY:=Q0a (Ms w.heap.size (Z9s _) w b1);have N1:=Q0a N6;have Ns:Hid (∀V,Below w.heap.size w V->IsI V ia its):=fun V hV=>ET.below hV
  have AK:Hid (∀wr,Below w.heap.size w wr->Cells wr w.heap.size 314 ((arrL ws (its.map Q1s)).map encU)->(∀i∈its,Q0Q i=true) ->
    ((wr.cell? ⟨g,0,none⟩=some (.pointer (some ⟨Z.S.P.a.a,0,none⟩))/\wr.cell? ⟨g,1,none⟩=some (.int .i64 (p.at_:Int)))/\∀o j,(wr.drew.alloc o).cell? ⟨g,j,none⟩=wr.cell? ⟨g,j,none⟩) /\
    Calls prog 57 #[.pointer (some ⟨Z.S.P.a.a,0,none⟩),.int .i64 ((p.at_+8*0:Nat):Int),.slice (some ⟨wr.heap.size,0,none⟩) 2 2] (wr.drew.alloc (.cells #[.int .u64 ((ws.length+16*its.length:Nat):Int),.int .u64 lb] 83)) fun r w2=>r=.returned (.int .i64 0) /\
     (w2.cell? ⟨g,0,none⟩=some (.pointer (some ⟨Z.S.P.a.a,0,none⟩))/\w2.cell? ⟨g,1,none⟩=some (.int .i64 (p.at_:Int))) /\
     Calls prog 57 #[.pointer (some ⟨Z.S.P.a.a,0,none⟩),.int .i64 ((p.at_+8*3:Nat):Int),.slice (some ⟨w.heap.size,0,none⟩) 10 10] w2.drew fun r w3=>r=.returned (.int .i64 0)/\w3.cell? ⟨g,0,none⟩=some (.pointer (some ⟨Z.S.P.a.a,0,none⟩))/\Q8F Z fr N K M p ⟨lb,ws,its⟩ w (.returned (.int .i64 0)) w3):=fun wr hwr hc A8=>by
   have Bb:=AsideV.step hb (h.grown hwr);obtain⟨g0,e0,_,l0,z0⟩:=Bb 0 _ rfl;obtain⟨g1,e1,_,_,z1⟩:=Bb 1 _ rfl;cases e0;cases e1;rw[Z3M] at hc;exact⟨⟨⟨z0,z1⟩,fun o j=>World.cell?_of_block (w:=wr) (((Below.refl wr.heap.size wr).drew.alloc (Z9s _) o).block _ l0)⟩,Z3O ok h hp hi AQ hb (x:=⟨lb,ws,its⟩) ⟨hx,Ed,A8,h8,h2⟩ hc (Z9s _) hwr⟩
  have BX:Hid (∀wr,Below w.heap.size w wr->(∃i∈its,Q0Q i=false)->Q8F Z fr N K M p ⟨lb,ws,its⟩ w (.returned (.int .i64 1)) wr):=fun wr hwr he=>.inl ⟨.inr (.inr he),rfl,hwr⟩
  have Mh:Hid (∀(V:World),V.cell? ⟨g,1,none⟩=some (.int .i64 (p.at_:Int))->(Calls prog 217 #[.pointer (some ⟨g,0,none⟩),.int .i64 0] V fun r w'=>r=.returned (.int .i64 ((p.at_+8*0:Nat):Int))/\V=w')/\(Calls prog 217 #[.pointer (some ⟨g,0,none⟩),.int .i64 3] V fun r w'=>r=.returned (.int .i64 ((p.at_+8*3:Nat):Int))/\V=w')):=fun V hV=>⟨Q2W hV (by omega) 0 (by omega),Q2W hV (by omega) 3 (by omega)⟩
  generalize Q8F Z fr N K M p ⟨lb,ws,its⟩ w=Q at *
  generalize Z.S.P.a.a=aa at *
  generalize (p.at_+8*0:Nat)=y0 at *
  generalize (p.at_+8*3:Nat)=y3 at *
  generalize p.at_=pa at *
  have Mt:Hid (its.length<=2/\ws.length<=8):=⟨h2,h8⟩
  obtain⟨nI,Gd⟩:∃n,n=its.length:=⟨_,rfl⟩
  have LP:=Q0a Gd;rw[<- Gd] at h2 AK Iq;rw[<- Gd];obtain⟨nW,Kw⟩:∃n,n=ws.length:=⟨_,rfl⟩
  have OY:=Q0a Kw;rw[<- Kw] at h8 AK DJ Hb Mt;rw[<- Kw];clear ok h hp hi AQ hb hu ET hr Cr Kw b1 N6 Ms Gd hE;have P7:(nW:Int)<=8:=by omega
  have Ce:(nI:Int)<=2:=by omega
  have hd:decide ((8:Int)<(nW:Int))=false:=decide_eq_false (by omega);have D4:decide (8<nW)=false:=decide_eq_false (by omega);have FK:decide ((2:Int)<(nI:Int))=false:=decide_eq_false (by omega);have I5:decide (2<nI)=false:=decide_eq_false (by omega);have Mr:=DJ 3;clear DJ;go_enter func181,ntmps181;go_wp2_with fail;clear Mr hd D4 FK I5
  go_loopg [31] nI (fun gk iv wr=>∃(k:Nat),iv=.int .i64 k/\k+gk=nI/\Below w.heap.size w wr/\Cells wr w.heap.size 314 ((arrL ws ((its.take k).map Q1s)).map encU)/\∀i∈its.take k,Q0Q i=true)
  case atStart=>exact⟨0,rfl,by omega,NY.out,by simpa using N1.out,by simp⟩
  case round =>
   clear N1 NY;obtain⟨k,rfl,Cc,Bb,IC,A8⟩:=hrel;have DD:=Q0a Cc;have Eo:=Q0a A8;have J5:=Q0a IC;have DY:=Q0a Bb;clear Cc A8;by_cases Aa:k<nI
   ·obtain⟨i,DX⟩:∃i,its[k]?=some i:=⟨_,J1A (by rw[<- LP.out];exact Aa)⟩
    obtain⟨g',o',rfl,Df,BJ⟩:=Ns.out wr Bb k i DX;have i0:wr.cell? ⟨g',o'+k*5,none⟩=some (.int .i64 i.base):=BJ 0 _ rfl;have i1:wr.cell? ⟨g',o'+k*5+1,none⟩=some (.int .i64 i.order):=BJ 1 _ rfl;have i2:wr.cell? ⟨g',o'+k*5+2,none⟩=some (.int .i64 i.r):=BJ 2 _ rfl;have i3:wr.cell? ⟨g',o'+k*5+3,none⟩=some (.int .i64 i.off):=BJ 3 _ rfl;have i4:wr.cell? ⟨g',o'+k*5+4,none⟩=some (.bool i.g):=BJ 4 _ rfl;have Cu:(k:Int)<(nI:Int):=by omega
    have Bp:(0:Int)<=(k:Int):=by omega
    have kc:=Q7O (wr.alloc (.cells #[.int .i64 i.base,.int .i64 i.order,.int .i64 i.r,.int .i64 i.off,.bool i.g] 63)) i;have HI:=Q0a DX;have AT:=Q0a Aa;have b4:=Bb.alloc Bb.size (.cells #[.int .i64 i.base,.int .i64 i.order,.int .i64 i.r,.int .i64 i.off,.bool i.g] 63);have Aj:=Q0a b4;have BB:(wr.alloc (.cells #[.int .i64 i.base,.int .i64 i.order,.int .i64 i.r,.int .i64 i.off,.bool i.g] 63)).heap.size=wr.heap.size+1:=by simp
    rw[BB] at kc;clear BJ DX Bb IC b4 BB;have An:k=0∨k=1:=by omega
    clear Aa;obtain⟨cv,B4⟩:∃b,b=Q0Q i:=⟨_,rfl⟩
    have O3:=Q0a B4;rw[<- B4] at kc;clear B4;go_wp2_with fail;refine kc.mono ?_;rintro r w5⟨y,rfl,Ay,hy⟩;have HY:=Q0a hy;have Bs:=Q0a (Aj.out.trans (Ay.mono (by have:=Aj.out.size;simpa using this)));have Gt:Hid (Cells w5 w.heap.size 314 ((arrL ws ((its.take k).map Q1s)).map encU)):=(J5.out.alloc _).same (Ay.block _ (Z9u J5.out.lt (J3s _)));clear Ay hy kc i0 i1 i2 i3 i4 J5;cases cv with
    | false =>
     have HQ:=Q0a (BX.out w5 Bs.out ⟨i,J1x HI.out,O3.out.symm⟩);clear BX AK HY Gt;go_wp2_with fail
     (try go_ret);exact HQ.out
    | true =>
     obtain rfl:=HY.out rfl;have RA:=Gt.out.free 8;have Ru:=Gt.out.free 9;have Fo:=Gt.out.lt;have Ba:(arrL ws ((its.take k).map Q1s)).length=10:=Z6h (by rw[<- OY.out];exact Mt.out.2) (by rw[J0S,J1C];omega);obtain⟨v8,Rs⟩:∃v,w5.cell? ⟨w.heap.size,8,none⟩=some v:=⟨_,Gt.out.cell 8 _ (J1A (by rw[J0S,Ba];omega))⟩
     obtain⟨v9,Rm⟩:∃v,w5.cell? ⟨w.heap.size,9,none⟩=some v:=⟨_,Gt.out.cell 9 _ (J1A (by rw[J0S,Ba];omega))⟩
     have HR:Hid (Below w.heap.size w (w5.setCell ⟨w.heap.size,8+k,none⟩ (.int .u64 (Q1s i:Int)))/\Cells (w5.setCell ⟨w.heap.size,8+k,none⟩ (.int .u64 (Q1s i:Int))) w.heap.size 314 ((arrL ws ((its.take (k+1)).map Q1s)).map encU)/\∀i∈its.take (k+1),Q0Q i=true):=by
      have AY:its.take (k+1)=its.take k++[i]:=by rw[J1f,HI.out];rfl
      have Lg:((its.take k).map Q1s).length=k:=by rw[J0S,J1C];have:=AT.out;have:=LP.out;omega
      refine⟨Bs.out.setCell (Z9s _) _,?_,?_⟩
      ·have:=Gt.out.set (8+k) (.int .u64 (Q1s i:Int));have e2:=Z6i (ws:=ws) (cs:=(its.take k).map Q1s) (by rw[<- OY.out];exact Mt.out.2) (by rw[Lg];omega) (Q1s i);rw[Lg] at e2;rw[AY,J2J,List.map_singleton,<- e2,J1Q];exact this
      ·rw[AY];intro j hj;rcases Z9Y.1 hj with hj|hj
       ·exact Eo.out j hj
       ·rw[J1q.1 hj];exact O3.out.symm
     clear BX AK HY Gt Bs Ba;rcases An with rfl|rfl
     ·go_wp2_with fail;go_roundg (nI-1)
      case measure=>have:=AT.out;have:=DD.out;omega
      case rel=>exact⟨1,by go_num,by have:=AT.out;omega,HR.out⟩
     ·go_wp2_with fail;go_roundg (nI-2)
      case measure=>have:=AT.out;have:=DD.out;omega
      case rel=>exact⟨2,by go_num,by have:=AT.out;omega,HR.out⟩
   ·obtain rfl:k=nI:=by have:=DD.out;omega
    have AY:its.take k=its:=J1h (by rw[<- LP.out];exact Z9s _);have GS:=J5.out;have Ip:=Eo.out;rw[AY] at GS Ip;obtain⟨⟨⟨c0,c1⟩,Ba⟩,ks⟩:=AK.out wr DY.out GS Ip;have d0:wr.drew.cell? ⟨g,0,none⟩=some (.pointer (some ⟨aa,0,none⟩)):=c0;have d1:wr.drew.cell? ⟨g,1,none⟩=some (.int .i64 pa):=c1;obtain⟨s16,He⟩:∃n,n=16*k:=⟨_,rfl⟩
    obtain⟨hh,Ll⟩:∃n,n=nW+16*k:=⟨_,rfl⟩
    rw[<- Ll] at ks;have hv:(hh:Int)=IntKind.u64.wrap (bits BinOp.or IntKind.i64 (nW:Int) (IntKind.i64.wrap ((k:Int)*16))):=by
     have f1:IntKind.i64.wrap ((k:Int)*16)=(s16:Int):=by rw[He,Go.IntWalk.i64_in _ (by omega)];omega
     have f2:bits BinOp.or IntKind.i64 (nW:Int) (s16:Int)=(hh:Int):=by
      rw[Q2a _ _ (by omega) (by omega),Ll,He];have:=Q8C nW k 4 (by omega);rw[show 16*k=k*2 ^ 4 by omega,this]
     rw[f1,f2,Go.IntWalk.u64_in _ (by omega)]
    rw[hv] at ks;have NB:=Q0a ks;have Mz:=Q0a Ba;clear BX AK IC Bb GS Ip Eo J5 AY ks He Ll hv Ba Ns DY;go_upto_region 13 with fail
    go_region_held3 (fun V=>V.cell? ⟨g,0,none⟩=some (.pointer (some ⟨aa,0,none⟩))) (first|exact c0|exact d0|exact z0|exact(Mz.out _ 0).trans c0) (first|(go_at_call 217;first|(refine(Mh.out _ d1).1.mono ?_;rintro r w'⟨rfl,rfl⟩)|(refine(Mh.out _ ((Mz.out _ 1).trans c1)).1.mono ?_;rintro r w'⟨rfl,rfl⟩))|(go_at_call 57;refine NB.out.mono ?_;rintro r w2⟨rfl,⟨z0,z1⟩,hq⟩;have HQ:=Q0a hq;clear hq))
    all_goals
     have y0':w2.drew.cell? ⟨g,0,none⟩=some (.pointer (some ⟨aa,0,none⟩)):=z0;have y1':w2.drew.cell? ⟨g,1,none⟩=some (.int .i64 pa):=z1;clear c0 c1 d0 d1 NB Mz;go_wp2_with fail
     go_region_held3 (fun V=>V.cell? ⟨g,0,none⟩=some (.pointer (some ⟨aa,0,none⟩))) (first|exact z0|exact y0'|exact z3) (first|(go_at_call 217;refine(Mh.out _ y1').2.mono ?_;rintro r w'⟨rfl,rfl⟩)|(go_at_call 57;refine HQ.out.mono ?_;rintro r w3⟨rfl,z3,hq⟩;have HR:=Q0a hq;clear hq))
     all_goals
      go_wp2_with fail
      (try go_ret2);exact HR.out
end Go.Proofs.YtfidemmgofcnmaaGreatDoor
