/- What the laws of spaces share is proved. No condition. Part of a proof. -/
import Derived.Test.YtfidemmgofcnmaaGreatDoorBz24
set_option maxHeartbeats 16000000
set_option maxRecDepth 100000
set_option linter.unusedVariables false
namespace Go.Proofs.YtfidemmgofcnmaaGreatDoor
open Go.RowKit Go.Proofs.Tryz
def GtH(B b l:Nat)(rw ri:RV)(ws:List Nat)(its:List It):HL:=
 rowH rw 83 1 (ws.map encU)++(rowH ri 63 5 (its.flatMap It.cells)++[(B,isC 100 [.int .u64 l,lvOf rw ws.length,lvOf ri its.length]),(b,isC 100 [.int .u64 0,.slice none 0 0,.slice none 0 0])])
structure GtQ(B b l:Nat)(rw ri:RV)(ws:List Nat)(its:List It)(w wr:World):Prop where
 st:Step [] (GtH B b l rw ri ws its) w wr
 w:rvOk rw ws.length
 i:rvOk ri its.length
def MsgIs(x:Msg)(w:World)(r:Ending)(w':World):Prop:=∃rw ri,r=.returned (.agg #[.int .u64 (x.label:Int),lvOf rw x.ws.length,lvOf ri x.its.length])/\rvOk rw x.ws.length/\rvOk ri x.its.length/\Step [] (rowH rw 83 1 (x.ws.map encU)++rowH ri 63 5 (x.its.flatMap It.cells)) w w'
section
variable {B b l:Nat} {rw ri:RV} {ws:List Nat} {its:List It} {w wr w':World}
theorem Q5r:GtH B b l rw ri ws its=(rowH rw 83 1 (ws.map encU)++rowH ri 63 5 (its.flatMap It.cells))++[(B,isC 100 [.int .u64 l,lvOf rw ws.length,lvOf ri its.length]),(b,isC 100 [.int .u64 0,.slice none 0 0,.slice none 0 0])]:=by
 unfold GtH;rw[J4b]
theorem GtQ.box(h:GtQ B b l rw ri ws its w wr):Cells wr B 100 [.int .u64 l,lvOf rw ws.length,lvOf ri its.length]/\Cells wr b 100 [.int .u64 0,.slice none 0 0,.slice none 0 0]:=by
 have hs:=h.st.sep;rw[Q5r] at hs;exact⟨hs.cells (by simp),hs.cells (by simp)⟩
theorem GtQ.grown(h:GtQ B b l rw ri ws its w wr)(hb:Below wr.heap.size wr w'):GtQ B b l rw ri ws its w w':=⟨h.st.trans (h.st.sep.grown hb),h.w,h.i⟩
theorem GtQ.word(h:GtQ B b l rw ri ws its w wr)(hl:ws.length<=1000)(x:Nat)(ty:TypeId):∃rw' w',(Builtin.append_ #[82,82] ty #[lvOf rw ws.length,.slice (some ⟨wr.heap.size,0,none⟩) 1 1]).run prog (wr.alloc (.cells #[.int .u64 x] 83))=.ok (lvOf rw' (ws.length+1)) w' /\
  Cells w' B 100 [.int .u64 l,lvOf rw ws.length,lvOf ri its.length]/\GtQ B b l rw' ri (ws++[x]) its w (w'.setCell ⟨B,1,none⟩ (lvOf rw' (ws.length+1))):=by
 obtain⟨rw',w',hr,h1,h2⟩:=J1G h.st.sep h.w hl x ty;have hs:=h2.sep;have e:rowH rw' 83 1 ((ws++[x]).map encU)++(rowH ri 63 5 (its.flatMap It.cells)++[(B,isC 100 [.int .u64 l,lvOf rw ws.length,lvOf ri its.length]),(b,isC 100 [.int .u64 0,.slice none 0 0,.slice none 0 0])])=(rowH rw' 83 1 ((ws++[x]).map encU)++rowH ri 63 5 (its.flatMap It.cells))++(B,isC 100 [.int .u64 l,lvOf rw ws.length,lvOf ri its.length])::[(b,isC 100 [.int .u64 0,.slice none 0 0,.slice none 0 0])]:=by rw[J4b]
 have AC:=hs;rw[e] at AC;have k:=AC.set 1 (lvOf rw' (ws.length+1));refine⟨rw',w',hr,AC.cells (by simp),?_,?_,h.i⟩
 ·have k2:Step _ _ w _:=(h.st.trans h2).trans (by rw[e];exact k);rw[Q5r]
  simpa[List.set] using k2
 ·rw[J3N];exact h1
theorem GtQ.item(h:GtQ B b l rw ri ws its w wr)(hl:its.length<=1000)(x:It)(ty:TypeId):∃ri' w',(Builtin.append_ #[98,98] ty #[lvOf ri its.length,.slice (some ⟨wr.heap.size,0,none⟩) 1 1]).run prog (wr.alloc (.cells #[.int .i64 x.base,.int .i64 x.order,.int .i64 x.r,.int .i64 x.off,.bool x.g] 63))=.ok (lvOf ri' (its.length+1)) w' /\
  Cells w' B 100 [.int .u64 l,lvOf rw ws.length,lvOf ri its.length]/\GtQ B b l rw ri' ws (its++[x]) w (w'.setCell ⟨B,2,none⟩ (lvOf ri' (its.length+1))):=by
 have hp:(GtH B b l rw ri ws its).Perm (rowH ri 63 5 (its.flatMap It.cells)++(rowH rw 83 1 (ws.map encU)++[(B,isC 100 [.int .u64 l,lvOf rw ws.length,lvOf ri its.length]),(b,isC 100 [.int .u64 0,.slice none 0 0,.slice none 0 0])])):=by
  unfold GtH;rw[<- J4b,<- J4b];exact J5O _ J5P
 obtain⟨ri',w',hr,h1,h2⟩:=J1H (h.st.sep.perm hp) h.i hl x ty;have e:rowH ri' 63 5 ((its++[x]).flatMap It.cells)++(rowH rw 83 1 (ws.map encU)++[(B,isC 100 [.int .u64 l,lvOf rw ws.length,lvOf ri its.length]),(b,isC 100 [.int .u64 0,.slice none 0 0,.slice none 0 0])])=(rowH ri' 63 5 ((its++[x]).flatMap It.cells)++rowH rw 83 1 (ws.map encU))++(B,isC 100 [.int .u64 l,lvOf rw ws.length,lvOf ri its.length])::[(b,isC 100 [.int .u64 0,.slice none 0 0,.slice none 0 0])]:=by rw[J4b]
 have AC:=h2.sep;rw[e] at AC;have k:=AC.set 2 (lvOf ri' (its.length+1));refine⟨ri',w',hr,AC.cells (by simp),?_,h.w,?_⟩
 ·have k1:Step [] _ w w':=(h.st.perm (J6v _) hp).trans h2;have k2:=k1.trans (by rw[e];exact k);refine k2.perm (J6v _) ?_;rw[Q5r];simp only[List.set];rw[J3N];exact J5O _ J5P
 ·rw[J3N];exact h1
theorem GtQ.done(h:GtQ B b l rw ri ws its w wr)(v0 v1 v2:Value):Step [] (rowH rw 83 1 (ws.map encU)++rowH ri 63 5 (its.flatMap It.cells)) w (((wr.setCell ⟨b,0,none⟩ v0).setCell ⟨b,1,none⟩ v1).setCell ⟨b,2,none⟩ v2):=by
 have hs:=h.st;rw[Q5r] at hs;have e:∀c,(rowH rw 83 1 (ws.map encU)++rowH ri 63 5 (its.flatMap It.cells))++[(B,isC 100 [.int .u64 l,lvOf rw ws.length,lvOf ri its.length]),(b,isC 100 c)]=((rowH rw 83 1 (ws.map encU)++rowH ri 63 5 (its.flatMap It.cells))++[(B,isC 100 [.int .u64 l,lvOf rw ws.length,lvOf ri its.length])])++(b,isC 100 c)::[]:=fun c=>by simp
 rw[e] at hs;have k0:=hs.trans (hs.sep.set 0 v0);have k1:=k0.trans (k0.sep.set 1 v1);have k2:=k1.trans (k1.sep.set 2 v2);refine k2.drop ?_;rw[J4b];exact J3R _ _
end
theorem Q7D{w w':World}(AM:Env w)(hb:Below w.heap.size w w'):MsgIs Msg.none w (.returned (.agg #[.int .u64 0,.slice none 0 0,.slice none 0 0])) w':=⟨none,none,rfl,rfl,rfl,(Sep.nil AM).grown hb⟩
theorem Q8n{m:List Nat}(hm:∀b∈m,b<256)(a:Nat):Q0m m a<18446744073709551616:=by
 have h:=J0f ((m.drop a).take 8) (fun b hb=>hm b (J5E (J6y hb)));have h8:((m.drop a).take 8).length<=8:=by rw[J5u];omega
 refine J3j h ?_
 calc 256 ^ ((m.drop a).take 8).length<=256 ^ 8:=J4p (by omega) h8
  _=18446744073709551616:=by decide
theorem Q1u(rv:RV)(k:Nat):∃a n c,lvOf rv k=.slice a n c:=by
 cases rv with
 | none=>exact⟨_,_,_,rfl⟩
 | some p=>exact⟨_,_,_,rfl⟩
def wsK(m:List Nat)(a k:Nat):List Nat:=(List.range k).map fun i=>Q0o m a (3+i)
theorem Q2I(m:List Nat)(a k:Nat):(wsK m a k).length=k:=by simp[wsK]
theorem Z9D(m:List Nat)(a k:Nat):wsK m a (k+1)=wsK m a k++[Q0o m a (3+k)]:=by simp[wsK,List.range_succ]
theorem Q4P(m:List Nat)(a:Nat):∀k l,itemsB m a k=some l->l.length=k
 | 0,l,h=>by cases h;rfl
 | k+1,l,h=>by
  rw[itemsB] at h;cases h1:itemsB m a k with
  | none=>rw[h1] at h;cases h
  | some l1 =>
   rw[h1] at h;cases h2:Q4N (Q0o m a (11+k)) with
   | none=>rw[h2] at h;cases h
   | some i =>
    rw[h2] at h;cases h;rw[J3N,Q4P m a k l1 h1];rfl
theorem Z0T(m:List Nat)(a k j:Nat)(h:itemsB m a k=none)(hk:k<=j):itemsB m a j=none:=by
 induction j with
 | zero =>
  obtain rfl:k=0:=by omega
  exact h
 | succ j ih =>
  by_cases e:k=j+1
  ·rw[<- e];exact h
  ·rw[itemsB,ih (by omega)]
theorem Q6s{w:World}{Z:SP}{fr:List Nat}{N K:Nat}{M:Int}(ok:Z.Ok fr N K M)(h:Sep w Z.hl){p:Pl}(hp:p∈Z.S.l)(hi:p.is=true)(Bd:p.kind=3){g:Nat}(hb:BlkC Z p g w) :
  Calls prog 116 #[.pointer (some ⟨g,0,none⟩)] w (MsgIs (msgV Z.S.P.a.mem p.at_) w):=by
 have AM:=h.env;have HL:Hid (∀(V:World) (i:Nat),Below w.heap.size w V->i<=31->Calls prog 184 #[.pointer (some ⟨g,0,none⟩),.int .i64 i] V fun r w'=>r=.returned (.int .u64 (Q0o Z.S.P.a.mem p.at_ i:Nat))/\V.drew=w'):=fun V i hV h31=>Q7B ok (h.grown hV).sep hp hi Bd (AsideV.step hb (h.grown hV)) i h31
 have HW:Hid (∀i,Q0o Z.S.P.a.mem p.at_ i<18446744073709551616):=fun i=>Q8n ok.core.inv.mem.pool.bytes _
 clear ok h hp hi Bd hb;generalize Z.S.P.a.mem=m at *
 generalize p.at_=a at *
 obtain⟨X,hX⟩:∃X,X=msgV m a:=⟨_,rfl⟩
 rw[<- hX];obtain⟨x0,Df⟩:∃x,x=Q0o m a 0:=⟨_,rfl⟩
 obtain⟨n,hn⟩:∃n,n=x0%16:=⟨_,rfl⟩
 obtain⟨kk,Ej⟩:∃n,n=x0/16:=⟨_,rfl⟩
 obtain⟨x1,Gg⟩:∃x,x=Q0o m a 1:=⟨_,rfl⟩
 have ND:x0<18446744073709551616:=by rw[Df];exact HW.out 0
 unfold msgV at hX;rw[<- Df,<- Gg,<- hn,<- Ej] at hX;have Iv:Hid (8<n∨2<kk->X=Msg.none):=fun hc=>by rw[hX,if_pos hc]
 have Ld:Hid (¬(8<n∨2<kk)->(itemsB m a kk=none->X=Msg.none)/\∀l,itemsB m a kk=some l->X=⟨x1,wsK m a n,l⟩):=fun hc=>by
  rw[hX,if_neg hc];exact⟨fun e=>by rw[e],fun l e=>by rw[e];rfl⟩
 have e1:=Q3f x0 15 4 ND rfl (by omega);rw[show(2:Nat) ^ 4=16 from rfl,<- hn] at e1;have d1:bits BinOp.and IntKind.u64 (x0:Int) 15=(n:Int):=e1;have d2:(x0:Int)/16=(kk:Int):=by rw[Ej];omega
 have w1:wrap64 (n:Int)=(n:Int):=Go.IntWalk.wrap64_in _ (by omega);have w2:wrap64 (kk:Int)=(kk:Int):=Go.IntWalk.wrap64_in _ (by omega);have HE:Hid (∀V,Below w.heap.size w V->∀v0 v1 v2,X=Msg.none->MsgIs X w (.returned (.agg #[.int .u64 0,.slice none 0 0,.slice none 0 0])) (((V.setCell ⟨w.heap.size,0,none⟩ v0).setCell ⟨w.heap.size,1,none⟩ v1).setCell ⟨w.heap.size,2,none⟩ v2)):=fun V hV v0 v1 v2 e=>by
  rw[e];exact Q7D AM (((hV.setCell (J3h _) _).setCell (J3h _) _).setCell (J3h _) _)
 have Dr:Hid (∀V,Below w.heap.size w V->X=Msg.none->MsgIs X w (.returned (.agg #[.int .u64 0,.slice none 0 0,.slice none 0 0])) V):=fun V hV e=>by
  rw[e];exact Q7D AM hV
 have BN:Hid (Below w.heap.size w (w.alloc (.cells #[.int .u64 0,.slice none 0 0,.slice none 0 0] 100))):=(Below.refl _ _).alloc (J3h _) _;have Ex:Hid (∀V,Below w.heap.size w V->Calls prog 184 #[.pointer (some ⟨g,0,none⟩),.int .i64 0] V fun r w'=>r=.returned (.int .u64 x0)/\V.drew=w'):=fun V hV=>by
  have:=HL.out V 0 hV (by omega)
  rwa [<- Df] at this
 have FJ:Hid (∀V,Below w.heap.size w V->Calls prog 184 #[.pointer (some ⟨g,0,none⟩),.int .i64 1] V fun r w'=>r=.returned (.int .u64 x1)/\V.drew=w'):=fun V hV=>by
  have:=HL.out V 1 hV (by omega)
  rwa [<- Gg] at this
 have Ao:GtQ (w.heap.size+1) w.heap.size x1 none none [] [] w ((w.alloc (.cells #[.int .u64 0,.slice none 0 0,.slice none 0 0] 100)).drew.drew.drew.alloc (.cells #[.int .u64 x1,.slice none 0 0,.slice none 0 0] 100)):=by
  have s1:=((Sep.nil AM).new 100 [.int .u64 0,.slice none 0 0,.slice none 0 0]).drew.drew.drew;have s2:=s1.trans (s1.sep.new 100 [.int .u64 x1,.slice none 0 0,.slice none 0 0]);have e:((w.alloc (.cells [.int .u64 0,.slice none 0 0,.slice none 0 0].toArray 100)).drew.drew.drew.heap.size)=w.heap.size+1:=by simp
  refine⟨?_,rfl,rfl⟩;rw[e] at s2;exact s2
 have CH:=Q0a Ao;have c1:=(Cells.new w 100 [.int .u64 0,.slice none 0 0,.slice none 0 0])
 have f0:=c1.free 0;have f1:=c1.free 1;have f2:=c1.free 2;have g0:=c1.cell 0 _ rfl;have g1:=c1.cell 1 _ rfl;have g2:=c1.cell 2 _ rfl;have Aa:=c1.lt;clear Ao hX ND e1 AM c1 hn Ej;by_cases hc:8<n∨2<kk
 ·have HR:=Q0a (Dr.out _ BN.out.drew.drew (Iv.out hc));clear Iv Ld HE Dr HL HW CH FJ Df Gg;by_cases Ll:8<n
  ·have Mm:(8:Int)<(n:Int):=by omega
   have hd:decide ((8:Int)<(n:Int))=true:=decide_eq_true Mm;have D6:decide (8<n)=true:=decide_eq_true Ll;go_enter func116,ntmps116;go_wp2_with fail;refine(Ex.out _ BN.out).mono ?_;rintro r w'⟨rfl,rfl⟩;go_wp2_with fail;refine(Ex.out _ BN.out.drew).mono ?_;rintro r w'⟨rfl,rfl⟩;go_wp2_with fail;refine bodyPost_ret (v:=.agg #[.int .u64 0,.slice none 0 0,.slice none 0 0]) (by simp[results,results116,go_sem,g0,g1,g2]) rfl HR.out
  ·have Ax:2<kk:=by omega
   have MM:(2:Int)<(kk:Int):=by omega
   have hd:decide ((8:Int)<(n:Int))=false:=decide_eq_false (by omega);have D6:decide (8<n)=false:=decide_eq_false Ll;have Hg:decide ((2:Int)<(kk:Int))=true:=decide_eq_true MM;have Jq:decide (2<kk)=true:=decide_eq_true Ax;go_enter func116,ntmps116;go_wp2_with fail;refine(Ex.out _ BN.out).mono ?_;rintro r w'⟨rfl,rfl⟩;go_wp2_with fail;refine(Ex.out _ BN.out.drew).mono ?_;rintro r w'⟨rfl,rfl⟩;go_wp2_with fail;refine bodyPost_ret (v:=.agg #[.int .u64 0,.slice none 0 0,.slice none 0 0]) (by simp[results,results116,go_sem,g0,g1,g2]) rfl HR.out
 ·have Nb:=Q0a (Ld.out hc);have Ll:n<=8:=by omega
  have Ax:kk<=2:=by omega
  have Mm:(n:Int)<=8:=by omega
  have MM:(kk:Int)<=2:=by omega
  have hd:decide ((8:Int)<(n:Int))=false:=decide_eq_false (by omega);have D6:decide (8<n)=false:=decide_eq_false (by omega);have Hg:decide ((2:Int)<(kk:Int))=false:=decide_eq_false (by omega);have Jq:decide (2<kk)=false:=decide_eq_false (by omega);have HN:Hid (n<=8/\kk<=2):=⟨Ll,Ax⟩
  clear Iv Ld hc Df Gg;go_enter func116,ntmps116;go_wp2_with fail;refine(Ex.out _ BN.out).mono ?_;rintro r w'⟨rfl,rfl⟩;go_wp2_with fail;refine(Ex.out _ BN.out.drew).mono ?_;rintro r w'⟨rfl,rfl⟩;go_wp2_with fail;refine(FJ.out _ BN.out.drew.drew).mono ?_;rintro r w'⟨rfl,rfl⟩;go_wp2_with fail;clear d1 d2 f0 f1 f2 g0 g1 g2 Aa hd D6 Hg Jq w1
  go_loopg [31] n (fun gk iv wr=>∃(k:Nat) (rw:RV),iv=.int .i64 k/\k+gk=n/\GtQ (w.heap.size+1) w.heap.size x1 rw none (wsK m a k) [] w wr)
  case atStart=>exact⟨0,none,rfl,by omega,CH.out⟩
  case round =>
   clear CH;obtain⟨k,rw_,rfl,BR,hq⟩:=hrel;have HQ:=Q0a hq;have Dz:=Q0a BR;clear BR;have BA:=hq.st.fresh;have Dl:=Q0a BA;by_cases Aa:k<n
   ·have CG:(k:Int)<(n:Int):=by omega
    have BE:(0:Int)<=(k:Int):=by omega
    have kl:=HL.out wr.drew (3+k) BA.drew (by omega);rw[show((3+k:Nat):Int)=IntKind.i64.wrap (3+(k:Int)) by rw[Go.IntWalk.i64_in _ (by omega)];omega] at kl;obtain⟨rw2,w9,AK,GK,GT⟩:=(hq.grown ((Below.refl _ _).drew.drew)).word (by rw[Q2I];omega) (Q0o m a (3+k)) 82;rw[Q2I] at AK GK GT;rw[<- Z9D] at GT;have M7:=GT.w;rw[Q2I] at M7;obtain⟨va,vc,hV⟩:∃a c,lvOf rw2 (k+1)=.slice a (k+1) c:=by
     cases rw2 with
     | none=>cases M7
     | some q=>exact⟨_,_,rfl⟩
    rw[hV] at AK GT;have HA:Hid ((Builtin.append_ #[82,82] 82 #[lvOf rw_ k,.slice (some ⟨wr.heap.size,0,none⟩) 1 1]).run prog ((wr.alloc (.cells #[.int .u64 (Q0o m a (3+k):Int)] 83)).drew.drew)=.ok (.slice va (k+1) vc) w9):=AK;have HR:=Q0a GT;obtain⟨hB,_⟩:=hq.box;rw[Q2I] at hB;have b1:=hB.cell 1 _ rfl;have b2:=(hB.alloc (.cells #[.int .u64 (Q0o m a (3+k):Int)] 83)).cell 1 _ rfl;have b0:=GK.cell 1 _ rfl;have bf:=GK.free 1;have bl:=GK.lt;have Du:=Q0a Aa;clear hq GT M7 AK BA hV hB GK;generalize lvOf rw_ k=u at *
    generalize Q0o m a (3+k)=xk at *
    have Wc:=Q0a kl;clear kl HL HW HE Dr Nb Dl Ex FJ BN;go_wp2_with fail
    go_region_law (first|(go_simp;go_at_call 184;refine Wc.out.mono ?_;rintro r w'⟨rfl,rfl⟩)|(refine Q0B rfl (.tmp 35) (.tmp 40) 82 82 rfl _ _ (by simp[Act.eval]) (by simp[Act.eval]) HA.out ?_))
    all_goals
     go_wp2_with fail;go_roundg (n-(k+1))
     case measure=>have:=Dz.out;have:=Du.out;omega
     case rel=>exact⟨k+1,rw2,by go_num,by have:=Du.out;omega,HR.out⟩
   ·obtain rfl:k=n:=by have:=Dz.out;omega
    have DW:=Q0a (Q2I m a k);clear hq Dl;go_wp2_with fail;obtain⟨wo,rfl⟩:∃wo:World,wo=wr:=⟨_,rfl⟩
    go_loopg [46] kk (fun gk iv wi=>∃(j:Nat) (ri:RV) (its:List It),iv=.int .i64 j/\j+gk=kk/\itemsB m a j=some its/\GtQ (w.heap.size+1) w.heap.size x1 rw_ ri (wsK m a k) its w wi)
    case atStart=>exact⟨0,none,[],rfl,by omega,rfl,HQ.out⟩
    case round =>
     clear HQ;obtain⟨j,ri,its,rfl,BR,Fq,hq⟩:=hrel;have HQ:=Q0a hq;have Gh:=Q0a BR;have Ja:=Q0a Fq;have Gy:=Q4P m a j its Fq;have Ko:=Q0a Gy;obtain⟨hB,hb⟩:=hq.box;rw[Q2I,Gy] at hB;have B0:=hB.cell 0 _ rfl;have B1:=hB.cell 1 _ rfl;have B2:=hB.cell 2 _ rfl;have Dl:=Q0a hq.st.fresh;clear BR Fq;by_cases Aa:j<kk
     ·have NM:(j:Int)<(kk:Int):=by omega
      have Gz:(0:Int)<=(j:Int):=by omega
      have Xw:IntKind.i64.wrap (11+(j:Int))=11+(j:Int):=Go.IntWalk.i64_in _ (by omega);have kl:=HL.out wr (11+j) Dl.out (by omega);rw[show((11+j:Nat):Int)=11+(j:Int) by omega] at kl;have ki:=Z3O wr.drew (Q0o m a (11+j)) (HW.out _);have Du:=Q0a Aa;clear hq hB hb B0 B1 B2 Gy;have CZ:Hid (itemsB m a (j+1)=match Q4N (Q0o m a (11+j)) with|some i=>some (its++[i])|none=>none):=by
       refine Q0a ?_;rw[itemsB,Ja.out];cases Q4N (Q0o m a (11+j)) <;> rfl
      unfold Z9C at ki;generalize Q0o m a (11+j)=xj at *
      have Ux:=Q0a ki;clear ki;go_wp2_with fail;refine kl.mono ?_;rintro r w'⟨rfl,rfl⟩;clear kl;go_wp2_with fail;refine Ux.out.mono ?_;intro r w5 hr;obtain⟨hr,As⟩:=hr;have BQ:=Q0a ((Below.refl wr.heap.size wr).drew.trans (As.mono (J3h _)));clear As Ux;cases Ky:Q4N xj with
      | none =>
       rw[Ky] at hr CZ;dsimp only at hr CZ;subst hr;have hX:X=Msg.none:=Nb.out.1 (Z0T m a (j+1) kk CZ.out (by omega));have Lg:=Q0a (Dl.out.trans (BQ.out.mono Dl.out.size));have HR:=Q0a (Dr.out _ (Lg.out.alloc Lg.out.size (.cells #[.int .i64 0,.int .i64 0,.int .i64 0,.int .i64 0,.bool false] 63)) hX);have Eg:=Q0a (HE.out _ (Lg.out.alloc Lg.out.size (.cells #[.int .i64 0,.int .i64 0,.int .i64 0,.int .i64 0,.bool false] 63)) (.int .u64 0) (.slice none 0 0) (.slice none 0 0) hX);have As:=((HQ.out.grown BQ.out).box.2).alloc (.cells #[.int .i64 0,.int .i64 0,.int .i64 0,.int .i64 0,.bool false] 63)
       have g0:=As.cell 0 _ rfl;have g1:=As.cell 1 _ rfl;have g2:=As.cell 2 _ rfl;have f0:=As.free 0;have f1:=As.free 1;have f2:=As.free 2;have VZ:=As.lt;clear As hX HE Dr Nb CZ Ja HQ;go_wp2_with fail
       first
        | refine bodyPost_ret (v:=.agg #[.int .u64 0,.slice none 0 0,.slice none 0 0]) (by simp[results,results116,go_sem,g0,g1,g2]) rfl HR.out
        | refine bodyPost_ret (v:=.agg #[.int .u64 0,.slice none 0 0,.slice none 0 0]) (by simp[results,results116,go_sem,g0,g1,g2]) rfl Eg.out
      | some i =>
       rw[Ky] at hr CZ;dsimp only at hr CZ;subst hr;have b6:=BQ.out.alloc BQ.out.size (.cells #[.int .i64 i.base,.int .i64 i.order,.int .i64 i.r,.int .i64 i.off,.bool i.g] 63);have q6:=HQ.out.grown b6;obtain⟨ri2,w9,AK,GK,GT⟩:=q6.item (by rw[Ko.out];omega) i 98;have J1:(w5.alloc (.cells #[.int .i64 i.base,.int .i64 i.order,.int .i64 i.r,.int .i64 i.off,.bool i.g] 63)).heap.size=w5.heap.size+1:=by simp
       rw[J1,Ko.out] at AK;rw[Q2I,Ko.out] at GK;have e9:(its++[i]).length=j+1:=by rw[J3N,Ko.out];rfl
       rw[Ko.out] at GT;have RX:=q6.box.1;rw[Q2I,Ko.out] at RX;have B2:=RX.cell 2 _ rfl;have b2:=GK.cell 2 _ rfl;have bf:=GK.free 2;have bl:=GK.lt;have ci:=Cells.new w5 63 [.int .i64 i.base,.int .i64 i.order,.int .i64 i.r,.int .i64 i.off,.bool i.g];have i0:=ci.cell 0 _ rfl;have i1:=ci.cell 1 _ rfl;have i2:=ci.cell 2 _ rfl;have i3:=ci.cell 3 _ rfl;have i4:=ci.cell 4 _ rfl;obtain⟨va,vn,vc,hV⟩:=Q1u ri2 (j+1);rw[hV] at AK GT;have HR:=Q0a GT;generalize lvOf ri j=u at *
       clear hV GK GT RX q6 b6 J1 ci e9 HE Dr;go_wp2_with (at_builtin;refine Lib.wpList_append_run _ rfl _ _ _ _ rfl _ _ rfl rfl _ _ AK ?_);go_roundg (kk-(j+1))
       case measure=>have:=Gh.out;have:=Du.out;omega
       case rel=>exact⟨j+1,ri2,its++[i],by go_num,by have:=Du.out;omega,CZ.out,HR.out⟩
     ·obtain rfl:j=kk:=by have:=Gh.out;omega
      have hX:=Nb.out.2 its Ja.out;have HR:Hid (MsgIs X w (.returned (.agg #[.int .u64 x1,lvOf rw_ k,lvOf ri j])) (((wr.setCell ⟨w.heap.size,0,none⟩ (.int .u64 x1)).setCell ⟨w.heap.size,1,none⟩ (lvOf rw_ k)).setCell ⟨w.heap.size,2,none⟩ (lvOf ri j))):=by
       rw[hX];refine⟨rw_,ri,?_,hq.w,hq.i,hq.done _ _ _⟩;dsimp only;rw[Q2I,Gy]
      have g0:=hb.cell 0 _ rfl;have g1:=hb.cell 1 _ rfl;have g2:=hb.cell 2 _ rfl;have f0:=hb.free 0;have f1:=hb.free 1;have f2:=hb.free 2;have VZ:=hb.lt;obtain⟨va,vn,vc,hV⟩:=Q1u rw_ k;obtain⟨xa,xn,xc,Lo⟩:=Q1u ri j;rw[hV] at B1;rw[Lo] at B2;rw[hV,Lo] at HR;clear hV Lo;clear hq hB hb hX HE Dr Nb HL HW Ja HQ Dl Gy Ko DW;go_wp2_with fail;refine bodyPost_ret (v:=.agg #[.int .u64 x1,.slice va vn vc,.slice xa xn xc]) (by simp[results,results116,go_sem,g0,g1,g2]) rfl HR.out
def IsU(w:World)(a:Option Addr)(ws:List Nat):Prop:=∀(j y:Nat),ws[j]?=some y->∃g o,a=some ⟨g,o,none⟩/\g<w.heap.size/\w.cell? ⟨g,o+j,none⟩=some (.int .u64 y)
def IsI(w:World)(a:Option Addr)(its:List It):Prop:=∀(j:Nat) (i:It),its[j]?=some i->∃g o,a=some ⟨g,o,none⟩/\g<w.heap.size/\∀(c:Nat) (v:Value),i.cells[c]?=some v->w.cell? ⟨g,o+j*5+c,none⟩=some v
theorem IsU.below{w w':World}{a:Option Addr}{ws:List Nat}(h:IsU w a ws)(hb:Below w.heap.size w w'):IsU w' a ws:=fun j y hj=>by
 obtain⟨g,o,e,hg,hc⟩:=h j y hj;exact⟨g,o,e,J3j hg hb.size,(World.cell?_of_block (w:=w) (hb.block g hg)).trans hc⟩
theorem IsI.below{w w':World}{a:Option Addr}{its:List It}(h:IsI w a its)(hb:Below w.heap.size w w'):IsI w' a its:=fun j y hj=>by
 obtain⟨g,o,e,hg,hc⟩:=h j y hj;exact⟨g,o,e,J3j hg hb.size,fun c v hv=>(World.cell?_of_block (w:=w) (hb.block g hg)).trans (hc c v hv)⟩
def arrL(ws cs:List Nat):List Nat:=(ws++List.replicate (8-ws.length) 0)++(cs++List.replicate (2-cs.length) 0)
theorem Z9E{ws cs:List Nat}(h:ws.length<=8)(h2:cs.length<=2):(arrL ws cs).length=10:=by simp[arrL];omega
theorem Z9F{ws cs:List Nat}(h:ws.length<=8)(h2:cs.length<2)(y:Nat):(arrL ws cs).set (8+cs.length) y=arrL ws (cs++[y]):=by
 unfold arrL;have hl:(ws++List.replicate (8-ws.length) 0).length=8:=by simp;omega
 rw[J6R _ _ (by rw[hl];omega),hl,show 8+cs.length-8=cs.length by omega,J6R _ _ (J3h _),J6t];obtain⟨r,hr⟩:∃r,2-cs.length=r+1:=⟨1-cs.length,by omega⟩
 have Ei:2-(cs++[y]).length=r:=by rw[J3N];simp;omega
 rw[hr,Ei,J7a,J5N];simp
theorem Z7c(ws:List Nat)(its:List It):arrL ws (its.map Q1F)=Q3R ws its:=by unfold arrL Q3R;rw[J4K]
abbrev z10:List Value:=[.int .u64 0,.int .u64 0,.int .u64 0,.int .u64 0,.int .u64 0,.int .u64 0,.int .u64 0,.int .u64 0,.int .u64 0,.int .u64 0]
theorem Z7d:(prog.info? 83).map (·.size)=some 1:=by kernel_rfl
theorem Q8o{B g:Nat}{w0 w:World}(hb:Below B w0 w)(hBg:B<=g)(cs:Array Value):Below B w0 (w.setRow g cs):=
 ⟨hb.os,hb.tape,hb.output,by rw[setRow_size];exact hb.size,fun k hk=>by rw[setRow_other _ _ _ _ (by omega)];exact hb.block k hk⟩
theorem Z3P{w:World}{B:Nat}{wa:Option Addr}{ws:List Nat}(wc:Nat)(hB:Cells w B 314 z10)(h8:ws.length<=8)(hu:IsU w wa ws) :
  ∃w',(∀ty,(Builtin.copy_ #[82,82] ty #[.slice (some ⟨B,0,none⟩) 10 10,.slice wa ws.length wc]).run prog w=.ok (.int .i64 (ws.length:Int)) w')/\Cells w' B 314 ((arrL ws []).map encU)/\∀b0,b0<=B->∀w0,Below b0 w0 w->Below b0 w0 w':=by
 by_cases h0:ws.length=0
 ·obtain rfl:ws=[]:=J5a.1 h0;exact⟨w,fun ty=>run_copy_none (P:=prog) w 82 82 ty 83 (some ⟨B,0,none⟩) wa 10 10 0 wc underlying82 Z7d (by simp),hB,fun _ _ _ h=>h⟩
 ·obtain⟨g,o,rfl,_,_⟩:=hu 0 ws[0] (J5s (by omega));have k:=fun ty=>Q2m (P:=prog) w 82 82 ty 83 1 B 0 10 10 ⟨g,o,none⟩ ws.length wc ws.length z10.toArray 314 (ws.map encU) underlying82 Z7d hB (by simp[Nat.min_def];omega) (by simp) (fun j v hj=>by
   rw[J4M] at hj;cases hy:ws[j]? with
   | none=>rw[hy] at hj;cases hj
   | some y =>
    rw[hy] at hj;cases hj;obtain⟨g',o',e,_,hc⟩:=hu j y hy;cases e;have e2:(⟨g,o,none⟩:Addr).add j=⟨g,o+j,none⟩:=by unfold Addr.add;split <;> simp_all
    rw[e2];exact hc) (by simp;omega) (fun v hv=>by
   obtain⟨y,_,rfl⟩:=J3n.1 hv;rfl)
  refine⟨_,k,?_,fun b0 Bv w0 hw=>Q8o hw Bv _⟩;have e:(z10.toArray.toList.take 0++ws.map encU++z10.toArray.toList.drop (0+(ws.map encU).length))=(arrL ws []).map encU:=by
   simp only[J6C,J5l,J4K,J5F];unfold arrL;have hd:z10.toArray.toList.drop ws.length=List.replicate (10-ws.length) (encU 0):=by
    show(List.replicate 10 (encU 0)).drop ws.length=_;rw[List.drop_replicate]
   rw[hd,J6E,J6E,J6E,List.map_replicate,List.map_replicate];simp only[J5H,J5l,J5A,Nat.sub_zero,J4b];rw[List.replicate_append_replicate,show 8-ws.length+2=10-ws.length by omega]
  rw[e];exact setRow_heap w B _ _ _ _ hB
def PutE(ws:List Nat)(its:List It):Prop:=8<ws.length∨2<its.length∨∃i∈its,Q0W i=false
def Z0U(Z:SP)(fr:List Nat)(N K:Nat)(M:Int)(p:Pl)(x:Msg)(w:World)(r:Ending)(w':World):Prop:=
 (PutE x.ws x.its/\r=.returned (.int .i64 1)/\Below w.heap.size w w') ∨
 (x.May/\r=.returned (.int .i64 0)/\(Z.poke (putM Z.S.P.a.mem p.at_ x)).Ok fr N K M/\Step Z.hl (Z.poke (putM Z.S.P.a.mem p.at_ x)).hl w w')
theorem Z7e{w wr:World}{Z:SP}{fr:List Nat}{N K:Nat}{M:Int}(ok:Z.Ok fr N K M)(h:Sep w Z.hl){p:Pl}(hp:p∈Z.S.l)(hi:p.is=true)(Bd:p.kind=3){g B:Nat}(hb:BlkC Z p g w){x:Msg}(hm:x.May)(hB:Cells wr B 314 ((Q3R x.ws x.its).map encU))(hBk:w.heap.size<=B)(G2:Below w.heap.size w wr) :
  Calls prog 57 #[.pointer (some ⟨Z.S.P.a.a,0,none⟩),.int .i64 ((p.at_+8*0:Nat):Int),.slice (some ⟨wr.heap.size,0,none⟩) 2 2] (wr.drew.alloc (.cells #[.int .u64 ((x.ws.length+16*x.its.length:Nat):Int),.int .u64 (x.label:Int)] 83)) fun r w2=>r=.returned (.int .i64 0) /\
   (w2.cell? ⟨g,0,none⟩=some (.pointer (some ⟨Z.S.P.a.a,0,none⟩))/\w2.cell? ⟨g,1,none⟩=some (.int .i64 (p.at_:Int))) /\
   Calls prog 57 #[.pointer (some ⟨Z.S.P.a.a,0,none⟩),.int .i64 ((p.at_+8*3:Nat):Int),.slice (some ⟨B,0,none⟩) 10 10] w2.drew fun r w3=>r=.returned (.int .i64 0)/\w3.cell? ⟨g,0,none⟩=some (.pointer (some ⟨Z.S.P.a.a,0,none⟩))/\Z0U Z fr N K M p x w (.returned (.int .i64 0)) w3:=by
 have h1:=h.grown G2;have Ed:wr.heap.size∉keys Z.hl:=fun hk=>by have:=h.lt hk;have:=G2.size;omega
 have hA:∀b∈keys Z.S.P.a.hl,b∈keys Z.hl:=fun b hk=>by
  have e:∃o,(b,o)∈Z.S.P.a.hl:=by
   obtain⟨q,hq,rfl⟩:=J3n.1 hk;exact⟨q.2,hq⟩
  obtain⟨o,ho⟩:=e;exact J3n.2 ⟨(b,o),by simp only[SP.hl,CO.hl,PL.hl,J3m,J3Q];simp[ho],rfl⟩
 have b2:Below wr.heap.size wr (wr.drew.alloc (.cells #[.int .u64 ((x.ws.length+16*x.its.length:Nat):Int),.int .u64 (x.label:Int)] 83)):=(Below.refl wr.heap.size wr).drew.alloc (J3h _) _;have h2:=h1.trans (h1.sep.grown b2);have cN:=Cells.new wr.drew 83 [.int .u64 ((x.ws.length+16*x.its.length:Nat):Int),.int .u64 (x.label:Int)];have QM:x.ws.length+16*x.its.length<18446744073709551616:=by have:=hm.few;have:=hm.two;omega
 refine(Q4t ok h2.sep hp hi (.inl Bd) (o:=8*0) (by omega) (ws:=[x.ws.length+16*x.its.length,x.label]) (by rw[Bd];show 8*0+8*2<=256;omega) (fun y hy=>by
  rcases J3m.1 hy with rfl|hy
  ·exact QM
  ·rw[J5i.1 hy];exact hm.label) (some ⟨wr.heap.size,0,none⟩) 2 (fun wq hc j y hj=>by
   have cq:=cN.same (hc.block _ cN.lt (fun hk=>Ed (hA _ hk)));refine⟨_,rfl,?_⟩;rw[addp,J5F]
   match j,hj with
   | 0,hj=>cases hj;exact cq.cell 0 _ rfl
   | 1,hj=>cases hj;exact cq.cell 1 _ rfl)).mono ?_
 rintro r w2⟨rfl,ok2,st2⟩;have Ae:=AsideV.step (AsideV.step hb h2) st2;have TG:=hB.lt;have Sz:B∉keys Z.hl:=fun hk=>by have:=h.lt hk;omega
 have cB:=(hB.same (b2.block _ TG)).same (st2.chg.block _ (J3j TG b2.size) Sz);obtain⟨g0,e0,_,_,z0⟩:=Ae 0 _ rfl;obtain⟨g1,e1,_,_,z1⟩:=Ae 1 _ rfl;cases e0;cases e1;refine⟨rfl,⟨z0,z1⟩,?_⟩;have Fi:=Q9K hm.few hm.two;have k:=Q4t (Z:=Z.stored p (8*0) [x.ws.length+16*x.its.length,x.label]) ok2 st2.sep.drew hp hi (.inl Bd) (o:=8*3) (by omega) (ws:=Q3R x.ws x.its) (by rw[Bd,Fi];show 8*3+8*10<=256;omega) (Z2f hm) (some ⟨B,0,none⟩) 10 (fun wq hc j y hj=>by
   have UL:B∉keys Z.S.P.a.hl:=fun hk=>Sz (hA _ hk)
   have cq:Cells wq B 314 ((Q3R x.ws x.its).map encU):=cB.same (hc.block _ cB.lt UL);refine⟨_,rfl,?_⟩;rw[addp,J5F];exact cq.cell j _ (by rw[J4M,hj];rfl))
 rw[Fi] at k;refine k.mono ?_;rintro r w3⟨rfl,ok3,st3⟩;obtain⟨g3,e3,_,_,z3⟩:=AsideV.step Ae st3.from_drew 0 _ rfl;cases e3;refine⟨rfl,z3,.inr ⟨hm,rfl,ok3,?_⟩⟩;exact(h2.trans st2).trans st3.from_drew
theorem Q9M{w:World}{Z:SP}{fr:List Nat}{N K:Nat}{M:Int}(ok:Z.Ok fr N K M)(h:Sep w Z.hl){p:Pl}(hp:p∈Z.S.l)(hi:p.is=true)(Bd:p.kind=3){g:Nat}(hb:BlkC Z p g w)(x:Msg)(hx:x.label<18446744073709551616)(I6:∀y∈x.ws,y<18446744073709551616){wa ia:Option Addr}(wc ic:Nat)(hu:IsU w wa x.ws)(Ff:IsI w ia x.its)(D7:x.ws.length<=1048576)(D3:x.its.length<=1048576) :
  Calls prog 181 #[.pointer (some ⟨g,0,none⟩),.int .u64 (x.label:Int),.slice wa x.ws.length wc,.slice ia x.its.length ic] w (Z0U Z fr N K M p x w):=by
 obtain⟨lb,ws,its⟩:=x;dsimp only at *
 have hr:=Q0Z ok.core hp hi (.inl Bd);have Dt:=Q0g ok.core.inv.mem.pool;rw[Bd,show costK 3=256 from rfl] at hr;by_cases hE:8<ws.length∨2<its.length
 ·have HR:Hid (Z0U Z fr N K M p ⟨lb,ws,its⟩ w (.returned (.int .i64 1)) w):=.inl ⟨by rcases hE with h|h;exact .inl h;exact .inr (.inl h),rfl,Below.refl _ _⟩;generalize ws.length=nW at *
  generalize its.length=nI at *
  clear ok h hp hi Bd hb hu Ff hr Dt;have Ji:(nW:Int)<=1048576:=by omega
  have BH:(nI:Int)<=1048576:=by omega
  by_cases h8:8<nW
  ·have hd:decide ((8:Int)<(nW:Int))=true:=decide_eq_true (by omega);have D6:decide (8<nW)=true:=decide_eq_true h8;go_enter func181,ntmps181;go_wp2_with fail
   (try go_ret);exact HR.out
  ·have hd:decide ((8:Int)<(nW:Int))=false:=decide_eq_false (by omega);have D6:decide (8<nW)=false:=decide_eq_false h8;have Hg:decide ((2:Int)<(nI:Int))=true:=decide_eq_true (by omega);have Jq:decide (2<nI)=true:=decide_eq_true (by omega);go_enter func181,ntmps181;go_wp2_with fail
   (try go_ret);exact HR.out
 ·have h8:ws.length<=8:=by omega
  have h2:its.length<=2:=by omega
  have b1:Below w.heap.size w (w.alloc (.cells z10.toArray 314)):=(Below.refl _ _).alloc (J3h _) _;obtain⟨V1,D0,NS,R3⟩:=Z3P wc (Cells.new w 314 z10) h8 (hu.below b1);have Ss:=Q0a (R3 w.heap.size (J3h _) w b1);have T4:=Q0a NS;have Cz:Hid (∀V,Below w.heap.size w V->IsI V ia its):=fun V hV=>Ff.below hV
  have AX:Hid (∀wr,Below w.heap.size w wr->Cells wr w.heap.size 314 ((arrL ws (its.map Q1F)).map encU)->(∀i∈its,Q0W i=true) ->
    ((wr.cell? ⟨g,0,none⟩=some (.pointer (some ⟨Z.S.P.a.a,0,none⟩))/\wr.cell? ⟨g,1,none⟩=some (.int .i64 (p.at_:Int)))/\∀o j,(wr.drew.alloc o).cell? ⟨g,j,none⟩=wr.cell? ⟨g,j,none⟩) /\
    Calls prog 57 #[.pointer (some ⟨Z.S.P.a.a,0,none⟩),.int .i64 ((p.at_+8*0:Nat):Int),.slice (some ⟨wr.heap.size,0,none⟩) 2 2] (wr.drew.alloc (.cells #[.int .u64 ((ws.length+16*its.length:Nat):Int),.int .u64 lb] 83)) fun r w2=>r=.returned (.int .i64 0) /\
     (w2.cell? ⟨g,0,none⟩=some (.pointer (some ⟨Z.S.P.a.a,0,none⟩))/\w2.cell? ⟨g,1,none⟩=some (.int .i64 (p.at_:Int))) /\
     Calls prog 57 #[.pointer (some ⟨Z.S.P.a.a,0,none⟩),.int .i64 ((p.at_+8*3:Nat):Int),.slice (some ⟨w.heap.size,0,none⟩) 10 10] w2.drew fun r w3=>r=.returned (.int .i64 0)/\w3.cell? ⟨g,0,none⟩=some (.pointer (some ⟨Z.S.P.a.a,0,none⟩))/\Z0U Z fr N K M p ⟨lb,ws,its⟩ w (.returned (.int .i64 0)) w3):=fun wr G2 hc A9=>by
   have BA:=AsideV.step hb (h.grown G2);obtain⟨g0,e0,_,l0,z0⟩:=BA 0 _ rfl;obtain⟨g1,e1,_,_,z1⟩:=BA 1 _ rfl;cases e0;cases e1;rw[Z7c] at hc;exact⟨⟨⟨z0,z1⟩,fun o j=>World.cell?_of_block (w:=wr) (((Below.refl wr.heap.size wr).drew.alloc (J3h _) o).block _ l0)⟩,Z7e ok h hp hi Bd hb (x:=⟨lb,ws,its⟩) ⟨hx,I6,A9,h8,h2⟩ hc (J3h _) G2⟩
  have CJ:Hid (∀wr,Below w.heap.size w wr->(∃i∈its,Q0W i=false)->Z0U Z fr N K M p ⟨lb,ws,its⟩ w (.returned (.int .i64 1)) wr):=fun wr G2 he=>.inl ⟨.inr (.inr he),rfl,G2⟩
  have Ql:Hid (∀(V:World),V.cell? ⟨g,1,none⟩=some (.int .i64 (p.at_:Int))->(Calls prog 217 #[.pointer (some ⟨g,0,none⟩),.int .i64 0] V fun r w'=>r=.returned (.int .i64 ((p.at_+8*0:Nat):Int))/\V=w')/\(Calls prog 217 #[.pointer (some ⟨g,0,none⟩),.int .i64 3] V fun r w'=>r=.returned (.int .i64 ((p.at_+8*3:Nat):Int))/\V=w')):=fun V hV=>⟨Q3w hV (by omega) 0 (by omega),Q3w hV (by omega) 3 (by omega)⟩
  generalize Z0U Z fr N K M p ⟨lb,ws,its⟩ w=Q at *
  generalize Z.S.P.a.a=aa at *
  generalize (p.at_+8*0:Nat)=y0 at *
  generalize (p.at_+8*3:Nat)=y3 at *
  generalize p.at_=pa at *
  have QE:Hid (its.length<=2/\ws.length<=8):=⟨h2,h8⟩
  obtain⟨nI,I5⟩:∃n,n=its.length:=⟨_,rfl⟩
  have QZ:=Q0a I5;rw[<- I5] at h2 AX D3;rw[<- I5];obtain⟨nW,OY⟩:∃n,n=ws.length:=⟨_,rfl⟩
  have TQ:=Q0a OY;rw[<- OY] at h8 AX D0 D7 QE;rw[<- OY];clear ok h hp hi Bd hb hu Ff hr Dt OY b1 NS R3 I5 hE;have Ji:(nW:Int)<=8:=by omega
  have BH:(nI:Int)<=2:=by omega
  have hd:decide ((8:Int)<(nW:Int))=false:=decide_eq_false (by omega);have D6:decide (8<nW)=false:=decide_eq_false (by omega);have Hg:decide ((2:Int)<(nI:Int))=false:=decide_eq_false (by omega);have Jq:decide (2<nI)=false:=decide_eq_false (by omega);have RH:=D0 3;clear D0;go_enter func181,ntmps181;go_wp2_with fail;clear RH hd D6 Hg Jq
  go_loopg [31] nI (fun gk iv wr=>∃(k:Nat),iv=.int .i64 k/\k+gk=nI/\Below w.heap.size w wr/\Cells wr w.heap.size 314 ((arrL ws ((its.take k).map Q1F)).map encU)/\∀i∈its.take k,Q0W i=true)
  case atStart=>exact⟨0,rfl,by omega,Ss.out,by simpa using T4.out,by simp⟩
  case round =>
   clear T4 Ss;obtain⟨k,rfl,BR,BA,L6,A9⟩:=hrel;have Dz:=Q0a BR;have Gf:=Q0a A9;have Mg:=Q0a L6;have Dl:=Q0a BA;clear BR A9;by_cases Aa:k<nI
   ·obtain⟨i,F8⟩:∃i,its[k]?=some i:=⟨_,J5s (by rw[<- QZ.out];exact Aa)⟩
    obtain⟨g',o',rfl,FE,Bo⟩:=Cz.out wr BA k i F8;have i0:wr.cell? ⟨g',o'+k*5,none⟩=some (.int .i64 i.base):=Bo 0 _ rfl;have i1:wr.cell? ⟨g',o'+k*5+1,none⟩=some (.int .i64 i.order):=Bo 1 _ rfl;have i2:wr.cell? ⟨g',o'+k*5+2,none⟩=some (.int .i64 i.r):=Bo 2 _ rfl;have i3:wr.cell? ⟨g',o'+k*5+3,none⟩=some (.int .i64 i.off):=Bo 3 _ rfl;have i4:wr.cell? ⟨g',o'+k*5+4,none⟩=some (.bool i.g):=Bo 4 _ rfl;have CG:(k:Int)<(nI:Int):=by omega
    have BE:(0:Int)<=(k:Int):=by omega
    have kc:=Q9J (wr.alloc (.cells #[.int .i64 i.base,.int .i64 i.order,.int .i64 i.r,.int .i64 i.off,.bool i.g] 63)) i;have HI:=Q0a F8;have Du:=Q0a Aa;have b4:=BA.alloc BA.size (.cells #[.int .i64 i.base,.int .i64 i.order,.int .i64 i.r,.int .i64 i.off,.bool i.g] 63);have Ag:=Q0a b4;have Br:(wr.alloc (.cells #[.int .i64 i.base,.int .i64 i.order,.int .i64 i.r,.int .i64 i.off,.bool i.g] 63)).heap.size=wr.heap.size+1:=by simp
    rw[Br] at kc;clear Bo F8 BA L6 b4 Br;have Ax:k=0∨k=1:=by omega
    clear Aa;obtain⟨cv,Bx⟩:∃b,b=Q0W i:=⟨_,rfl⟩
    have SG:=Q0a Bx;rw[<- Bx] at kc;clear Bx;go_wp2_with fail;refine kc.mono ?_;rintro r w5⟨y,rfl,As,hy⟩;have HY:=Q0a hy;have BQ:=Q0a (Ag.out.trans (As.mono (by have:=Ag.out.size;simpa using this)));have JS:Hid (Cells w5 w.heap.size 314 ((arrL ws ((its.take k).map Q1F)).map encU)):=(Mg.out.alloc _).same (As.block _ (J3j Mg.out.lt (J7p _)));clear As hy kc i0 i1 i2 i3 i4 Mg;cases cv with
    | false =>
     have HQ:=Q0a (CJ.out w5 BQ.out ⟨i,J5p HI.out,SG.out.symm⟩);clear CJ AX HY JS;go_wp2_with fail
     (try go_ret);exact HQ.out
    | true =>
     obtain rfl:=HY.out rfl;have XB:=JS.out.free 8;have XK:=JS.out.free 9;have FC:=JS.out.lt;have AQ:(arrL ws ((its.take k).map Q1F)).length=10:=Z9E (by rw[<- TQ.out];exact QE.out.2) (by rw[J4K,J5u];omega);obtain⟨v8,X5⟩:∃v,w5.cell? ⟨w.heap.size,8,none⟩=some v:=⟨_,JS.out.cell 8 _ (J5s (by rw[J4K,AQ];omega))⟩
     obtain⟨v9,XC⟩:∃v,w5.cell? ⟨w.heap.size,9,none⟩=some v:=⟨_,JS.out.cell 9 _ (J5s (by rw[J4K,AQ];omega))⟩
     have HR:Hid (Below w.heap.size w (w5.setCell ⟨w.heap.size,8+k,none⟩ (.int .u64 (Q1F i:Int)))/\Cells (w5.setCell ⟨w.heap.size,8+k,none⟩ (.int .u64 (Q1F i:Int))) w.heap.size 314 ((arrL ws ((its.take (k+1)).map Q1F)).map encU)/\∀i∈its.take (k+1),Q0W i=true):=by
      have AU:its.take (k+1)=its.take k++[i]:=by rw[J4X,HI.out];rfl
      have KT:((its.take k).map Q1F).length=k:=by rw[J4K,J5u];have:=Du.out;have:=QZ.out;omega
      refine⟨BQ.out.setCell (J3h _) _,?_,?_⟩
      ·have:=JS.out.set (8+k) (.int .u64 (Q1F i:Int));have e2:=Z9F (ws:=ws) (cs:=(its.take k).map Q1F) (by rw[<- TQ.out];exact QE.out.2) (by rw[KT];omega) (Q1F i);rw[KT] at e2;rw[AU,J6E,List.map_singleton,<- e2,J5I];exact this
      ·rw[AU];intro j hj;rcases J3Q.1 hj with hj|hj
       ·exact Gf.out j hj
       ·rw[J5i.1 hj];exact SG.out.symm
     clear CJ AX HY JS BQ AQ;rcases Ax with rfl|rfl
     ·go_wp2_with fail;go_roundg (nI-1)
      case measure=>have:=Du.out;have:=Dz.out;omega
      case rel=>exact⟨1,by go_num,by have:=Du.out;omega,HR.out⟩
     ·go_wp2_with fail;go_roundg (nI-2)
      case measure=>have:=Du.out;have:=Dz.out;omega
      case rel=>exact⟨2,by go_num,by have:=Du.out;omega,HR.out⟩
   ·obtain rfl:k=nI:=by have:=Dz.out;omega
    have AU:its.take k=its:=J4Z (by rw[<- QZ.out];exact J3h _);have KR:=Mg.out;have Lr:=Gf.out;rw[AU] at KR Lr;obtain⟨⟨⟨c0,c1⟩,AQ⟩,ks⟩:=AX.out wr Dl.out KR Lr;have d0:wr.drew.cell? ⟨g,0,none⟩=some (.pointer (some ⟨aa,0,none⟩)):=c0;have d1:wr.drew.cell? ⟨g,1,none⟩=some (.int .i64 pa):=c1;obtain⟨s16,Kl⟩:∃n,n=16*k:=⟨_,rfl⟩
    obtain⟨hh,Pz⟩:∃n,n=nW+16*k:=⟨_,rfl⟩
    rw[<- Pz] at ks;have hv:(hh:Int)=IntKind.u64.wrap (bits BinOp.or IntKind.i64 (nW:Int) (IntKind.i64.wrap ((k:Int)*16))):=by
     have f1:IntKind.i64.wrap ((k:Int)*16)=(s16:Int):=by rw[Kl,Go.IntWalk.i64_in _ (by omega)];omega
     have f2:bits BinOp.or IntKind.i64 (nW:Int) (s16:Int)=(hh:Int):=by
      rw[Q2v _ _ (by omega) (by omega),Pz,Kl];have:=Z0R nW k 4 (by omega);rw[show 16*k=k*2 ^ 4 by omega,this]
     rw[f1,f2,Go.IntWalk.u64_in _ (by omega)]
    rw[hv] at ks;have T9:=Q0a ks;have R0:=Q0a AQ;clear CJ AX L6 BA KR Lr Gf Mg AU ks Kl Pz hv AQ Cz Dl;go_upto_region 13 with fail
    go_region_held3 (fun V=>V.cell? ⟨g,0,none⟩=some (.pointer (some ⟨aa,0,none⟩))) (first|exact c0|exact d0|exact z0|exact(R0.out _ 0).trans c0) (first|(go_at_call 217;first|(refine(Ql.out _ d1).1.mono ?_;rintro r w'⟨rfl,rfl⟩)|(refine(Ql.out _ ((R0.out _ 1).trans c1)).1.mono ?_;rintro r w'⟨rfl,rfl⟩))|(go_at_call 57;refine T9.out.mono ?_;rintro r w2⟨rfl,⟨z0,z1⟩,hq⟩;have HQ:=Q0a hq;clear hq))
    all_goals
     have y0':w2.drew.cell? ⟨g,0,none⟩=some (.pointer (some ⟨aa,0,none⟩)):=z0;have y1':w2.drew.cell? ⟨g,1,none⟩=some (.int .i64 pa):=z1;clear c0 c1 d0 d1 T9 R0;go_wp2_with fail
     go_region_held3 (fun V=>V.cell? ⟨g,0,none⟩=some (.pointer (some ⟨aa,0,none⟩))) (first|exact z0|exact y0'|exact z3) (first|(go_at_call 217;refine(Ql.out _ y1').2.mono ?_;rintro r w'⟨rfl,rfl⟩)|(go_at_call 57;refine HQ.out.mono ?_;rintro r w3⟨rfl,z3,hq⟩;have HR:=Q0a hq;clear hq))
     all_goals
      go_wp2_with fail
      (try go_ret2);exact HR.out
end Go.Proofs.YtfidemmgofcnmaaGreatDoor
