/- CarryPages returns true at every input. No condition. Part of its proof. -/
import Derived.Test.YtfidemmgofcnmaaGreatDoorCg26
import Derived.Lib.LaidTab
import Derived.LaidMore
import Derived.MakeChecks
import Derived.Stop.LaidErr
set_option maxHeartbeats 16000000
set_option maxRecDepth 100000
set_option linter.unusedVariables false
namespace Go.Proofs.YtfidemmgofcnmaaGreatDoor
open Go.RowKit Go.Proofs.Tryz
theorem Z6u{w w0 wr:World}{a0:Option Addr}{len:Nat}{A:Nat->Nat}(h:IsW8 w a0 len A)(hb:Below w.heap.size w w0){H:HL}(st:Step [] H w0 wr):AsideU H ((List.range len).map A) a0 wr:=fun j y hj=>by
 by_cases hl:j<len
 ·have e:((List.range len).map A)[j]?=some (A j):=by simp[hl]
  rw[e] at hj;cases hj;obtain⟨g,o,h1,h2,h3,_⟩:=h j hl;refine⟨g,o,h1,fun hk=>?_,Z9u h2 (Z9t hb.size st.fresh.size),?_⟩
  ·rcases st.new g hk with h4|h4
   ·cases h4
   ·have:=hb.size;omega
  ·have Ae:=hb.trans (st.fresh.mono hb.size);exact(World.cell?_of_block (w:=w) (Ae.block g h2)).trans h3
 ·have e:((List.range len).map A)[j]?=none:=by simp;omega
  rw[e] at hj;cases hj
theorem Q9K{w:World}{a0:Option Addr}{len:Nat}{A:Nat->Nat}(h:IsW8 w a0 len A):∀y∈(List.range len).map A,y<18446744073709551616:=fun y hy=>by
 obtain⟨j,hj,rfl⟩:=Z9y.1 hy;obtain⟨_,_,_,_,_,h4⟩:=h j (Z9I.1 hj);exact h4
theorem Q6k(len:Nat)(A:Nat->Nat):((List.range len).map A).length=len:=by simp
def encW(x:Nat):Value:=.int .u64 x
theorem Q7V{H:HL}{ws:List Nat}{a:Option Addr}{w:World}(h:AsideV H (ws.map encW) a w):AsideU H ws a w:=fun j y hj=>by
 obtain⟨g,e,h1,h2,h3⟩:=h j (encW y) (by rw[J0U,hj];rfl);exact⟨g,0,e,h1,h2,by rw[J1N];exact h3⟩
section
variable {L:Int} {c k ge s:Nat} {M M':Int} {f:Nat->Nat×Nat} {C C':SP->Prop} {B:List (Nat×List Value)} {w0 wr w':World}
theorem Z6v{E:Nat->Nat->Option (Nat×Nat)}(h:CaS L c k ge M f (CE E s) B w0 wr)(hE:E 1 128=some (7,15)) :
  Calls prog 45 #[.pointer (some ⟨c,0,none⟩),.int .u32 1,.int .i64 128,.int .i64 0,.slice (some ⟨wr.heap.size,0,none⟩) 128 128] (wr.alloc (.cells (List.replicate 128 (Value.int .u64 0)).toArray 83)) fun r w'=>r=.returned (.int .i64 0)/\CaS L c k ge M f (CW f E (fun _=>0)) B w0 w':=by
 have hb:=h.box 83 (List.replicate 128 (Value.int .u64 0));have hm:(List.replicate 128 0).map encW=List.replicate 128 (Value.int .u64 0):=by rw[List.map_replicate];rfl
 have k:=Q6S (m:=fun _=>0) (fun Z hZ=>hZ.1) hb (t:=1) (.inl rfl) (z:=128) (by omega) hE (by decide) (o:=0) (ws:=List.replicate 128 0) rfl (by rw[Z9C];omega) (fun y hy=>by rw[Z9A hy];decide) (some ⟨wr.heap.size,0,none⟩) 128 (fun H st hB=>Q7V (by rw[hm];exact hB _ (List.mem_cons_self ..))) (fun Z _ i hi hn=>by rw[Z9C] at hn;omega);rw[Z9C] at k;refine k.mono ?_;rintro r w'⟨rfl,hq⟩;refine⟨rfl,(hq.sub fun q hq=>J3t _ hq).mono fun Z hZ=>⟨hZ.1,fun i hi=>?_⟩⟩;rw[hZ.2 i hi];unfold putW;split
 ·rw[J1k];split <;> rfl
 ·rfl
theorem Z6w{w:World}{la:Option Addr}{len cap:Nat}{A:Nat->Nat}(hA:IsW8 w la len A)(Le:Below w.heap.size w w0)(Ac:len<=128){E:Nat->Nat->Option (Nat×Nat)}(h:CaS L c k ge M f (CW f E (fun _=>0)) B w0 wr)(hE:E 1 128=some (7,15)){o:Nat}(ho:o<128) :
  Calls prog 45 #[.pointer (some ⟨c,0,none⟩),.int .u32 1,.int .i64 128,.int .i64 (8*(o:Int)),.slice la len cap] wr fun r w'=>∃(e:Int) (m:Nat->Nat),r=.returned (.int .i64 e)/\(e=0↔o+len<=128)/\(∀j,j<128->m j=if e=0/\o<=j/\j<o+len then A (j-o) else 0)/\CaS L c k ge M f (CW f E m) B w0 w':=by
 have hU:∀H:HL,Step [] H w0 wr->(∀q∈B,AsideV H q.2 (some ⟨q.1,0,none⟩) wr)->AsideU H ((List.range len).map A) la wr:=fun H st _=>Z6u hA Le st
 have e8:((8*o:Nat):Int)=8*(o:Int):=by omega
 by_cases hf:o+len<=128
 ·have k:=Q6S (m:=fun _=>0) (fun Z hZ=>hZ.1) h (t:=1) (.inl rfl) (z:=128) (by omega) hE (by decide) (o:=8*o) (ws:=(List.range len).map A) (by omega) (by rw[Q6k];omega) (Q9K hA) la cap hU (fun Z hZ i hi _=>hZ.2 i hi);rw[Q6k,e8] at k;refine k.mono ?_;rintro r w'⟨rfl,hq⟩;refine⟨0,_,rfl,⟨fun _=>hf,fun _=>rfl⟩,fun j hj=>?_,hq⟩;unfold putW;rw[Q6k];by_cases Bg:o<=j/\j<o+len
  ·have hd:(8*j-8*o)/8=j-o:=by omega
   have NI:j-o<len:=by omega
   rw[if_pos (by omega),if_pos ⟨rfl,Bg⟩,hd];simp[NI]
  ·rw[if_neg (by omega),if_neg (by rintro⟨_,h1⟩;exact Bg h1)]
 ·have k:=Q7U h (t:=1) (.inl rfl) (z:=128) (by omega) hE (o:=8*o) (by omega) (ws:=(List.range len).map A) (by rw[Q6k];omega) (Q9K hA) (by
   rw[Q6k];unfold frE;rw[if_neg (by decide),if_neg (by decide),if_pos (by omega)]
   decide) la cap hU
  rw[Q6k,e8] at k;refine k.mono ?_;rintro r w'⟨⟨er,h0,rfl⟩,hq⟩;exact⟨er,_,rfl,⟨fun h=>(h0 h).elim,fun h=>(hf h).elim⟩,fun j hj=>by rw[if_neg (by rintro⟨h1,_⟩;exact h0 h1)],hq⟩
theorem Q9L{r ot:Nat}(hot:ot<18446744073709551616){m:Nat->Nat}(h:CaS L c k ge M f (CW f (enP r) m) B w0 wr) :
  Calls prog 45 #[.pointer (some ⟨c,0,none⟩),.int .u32 2,.int .i64 200,.int .i64 0,.slice (some ⟨wr.heap.size,0,none⟩) 1 1] (wr.alloc (.cells #[.int .u64 ot] 83)) fun rv w'=>∃(e:Int) (m':Nat->Nat),rv=.returned (.int .i64 e)/\(e=0↔r&&&2≠0)/\(r&&&2≠0->m' 0=ot)/\CaS L c k ge M f (CW f (enP r) m') B w0 w':=by
 have hb:=h.box 83 [.int .u64 ot];have hU:∀H:HL,Step [] H w0 (wr.alloc (.cells #[.int .u64 ot] 83))->(∀q∈(wr.heap.size,[Value.int .u64 ot])::B,AsideV H q.2 (some ⟨q.1,0,none⟩) (wr.alloc (.cells #[.int .u64 ot] 83)))->AsideU H [ot] (some ⟨wr.heap.size,0,none⟩) (wr.alloc (.cells #[.int .u64 ot] 83)):=fun H st hB=>Q7V (hB _ (List.mem_cons_self ..))
 by_cases hr:r&&&2=0
 ·refine(Q7U hb (t:=2) (.inr rfl) (z:=200) (by omega) (rr:=r) rfl (o:=0) (by omega) (ws:=[ot]) (by simp) (fun y hy=>by rw[J1q.1 hy];exact hot) (by
   unfold frE;rw[if_neg (by decide),hr];simp) (some ⟨wr.heap.size,0,none⟩) 1 hU).mono ?_
  rintro rv w'⟨⟨er,h0,rfl⟩,hq⟩;exact⟨er,m,rfl,⟨fun h=>(h0 h).elim,fun h=>(h hr).elim⟩,fun h=>(h hr).elim,hq.sub fun q hq=>J3t _ hq⟩
 ·refine(Q6S (m:=m) (fun Z hZ=>hZ.1) hb (t:=2) (.inr rfl) (z:=200) (by omega) (rr:=r) rfl hr (o:=0) (ws:=[ot]) rfl (by simp) (fun y hy=>by rw[J1q.1 hy];exact hot) (some ⟨wr.heap.size,0,none⟩) 1 hU (fun Z hZ i hi _=>hZ.2 i hi)).mono ?_;rintro rv w'⟨rfl,hq⟩;exact⟨0,_,rfl,⟨fun _=>hr,fun _=>rfl⟩,fun _=>rfl,hq.sub fun q hq=>J3t _ hq⟩
end
theorem Z8s(r:Nat)(hr:r<16):bits .and .i64 (r:Int) 1=((r&&&1:Nat):Int)/\bits .and .i64 (r:Int) 2=((r&&&2:Nat):Int):=⟨Q1Z r 1 hr (by omega),Q1Z r 2 hr (by omega)⟩
theorem Z9b(r:Nat)(hr:r<16):(r&&&1=0∨r&&&1=1)/\(r&&&2=0∨r&&&2=2):=by
 have:∀r,r<16->(r&&&1=0∨r&&&1=1)/\(r&&&2=0∨r&&&2=2):=by decide
 exact this r hr
theorem Q5y{w:World}(AJ:Env w)(a0:Option Addr)(n cap:Nat)(A:Nat->Nat)(hA:IsW8 w a0 n A)(off:Nat)(hoff:off<256)(rt:Nat)(hrt:rt<256)(ot:Nat)(hot:ot<18446744073709551616) :
  Calls prog 6 #[.slice a0 n cap,.int .u8 off,.int .u8 rt,.int .u64 ot] w (Told w (.bool true)):=by
 have ka:=Q8M AJ;have Je:Hid (∀W,Below w.heap.size w W->Calls prog 43 #[.int .i64 65536] W fun r w'=>∃c k ge cap f,r=.returned (.tuple #[.pointer (some ⟨c,0,none⟩),.slice (some ⟨ge,0,none⟩) 5 cap,.bool true])/\CarB 65536 c k ge f W w'):=fun W hb=>Q5n (AJ.below hb) 65536 (by omega)
 have HA:=Q0a hA;have Oe:=Q0a hot;have e15:Int.tmod (rt:Int) 15=((rt%15:Nat):Int):=by rw[J1a (by omega)];omega
 have e128:Int.tmod (off:Int) 128=((off%128:Nat):Int):=by rw[J1a (by omega)];omega
 obtain⟨r0,OC⟩:∃r0,r0=rt%15:=⟨_,rfl⟩
 obtain⟨o,ho⟩:∃o,o=off%128:=⟨_,rfl⟩
 have P8:r0<15:=by omega
 have Ks:o<128:=by omega
 have HO:=Q0a Ks;rw[<- OC] at e15;rw[<- ho] at e128;clear hA AJ hot OC ho;have Eu:0<1+r0/\1+r0<=15:=by omega
 have er:((1+r0:Nat):Int)=1+(r0:Int):=by omega
 have b12:=Z8s (1+r0) (by omega);rw[er] at b12;have Eq:=Q0a b12;have IB:=Q0a (Z9b (1+r0) (by omega));clear b12;go_enter func6,ntmps6;go_wp2_with fail;refine ka.mono ?_;rintro r w0⟨rfl,BU⟩;have FJ:=Q0a BU;have HN:=Q0a (Je.out w0 BU);clear BU ka Je;go_wp2_with fail;refine HN.out.mono ?_;rintro r w1⟨c,k,ge,cp,f,rfl,hB⟩;have HQ:=Q0a (CaS.begin hB);clear HN hB;by_cases hn:n<=128
 case neg =>
  have Qr:(128:Int)<(n:Int):=by omega
  have HE:Hid (Told w (.bool true) (.returned (.bool true)) w1):=⟨rfl,FJ.out.trans (HQ.out.below.mono FJ.out.size)⟩
  clear HQ;go_wp2_with fail
  (try go_ret);exact HE.out
 case pos =>
  have Qr:(n:Int)<=128:=by omega
  have Pn:(0:Int)<=(n:Int):=by omega
  have JI:=Q0a hn;go_wp2_with fail;refine(Z4a HQ.out).mono ?_;rintro rr w2⟨s,rfl,hq,rfl⟩;have km:=Z8p Eu (by omega) hq;rw[er] at km;have HM:=Q0a km;clear HQ hq km;go_wp2_with fail;refine HM.out.mono ?_;rintro rr w2⟨rfl,hq⟩;have HR:=Q0a (Z8q (by omega) hq);clear HM hq;go_wp2_with fail;refine HR.out.mono ?_;rintro rr w3⟨rfl,hq⟩;have HZ:=Q0a (Z6v hq rfl);obtain⟨i0,hi,Bq,AM,Bh⟩:=info_parts infou64;have MY:(Instr.makeSlice 82 (.int .i64 128) (.int .i64 128)).run prog w3=.ok (.slice (some ⟨w3.heap.size,0,none⟩) 128 128) (w3.alloc (.cells (List.replicate 128 (Value.int .u64 0)).toArray 83)):=Q2o (P:=prog) (w:=w3) 82 83 i0 (.int .u64 0) 8 underlying82 hi Bq AM Bh rfl 128 (by omega) (by omega)
  clear hi Bq AM Bh HR hq;generalize (List.replicate 128 (Value.int .u64 0)).toArray=arr at *
  go_wp2_with fail;refine HZ.out.mono ?_;rintro rr w4⟨rfl,hq⟩;have HW:=Q0a (Z6w (cap:=cap) HA.out FJ.out JI.out hq rfl HO.out);clear HZ hq MY;go_wp2_with fail;refine HW.out.mono ?_;rintro rr w5⟨e,m,rfl,he,hm,hq⟩;have HQ:=Q0a hq;have HM:=Q0a hm;clear HW hq hm;by_cases h0:e=0
  case pos =>
   subst h0;have hf:=he.1 rfl;have Ey:8*(o:Int)+8*(n:Int)<=1024:=by omega
   have Lr:decide (8*(o:Int)+8*(n:Int)<=1024)=true:=by simp;omega
   clear he;go_wp2_with fail;clear Lr
   go_loopg [16] 128 (fun gk iv wr=>∃(j:Nat),iv=.int .i64 j/\j+gk=128/\CaS 65536 c k ge 4 f (CW f (enP (1+r0)) m) [] w0 wr)
   case atStart=>exact⟨0,rfl,rfl,HQ.out⟩
   case round =>
    clear HQ;obtain⟨j,rfl,Cb,hq⟩:=hrel;by_cases Aa:j<128
    case pos =>
     have Ia:(j:Int)<128:=by omega
     have Eb:(0:Int)<=(j:Int):=by omega
     by_cases Bg:o<=j/\j<o+n
     case pos =>
      have OS:Hid (Below w.heap.size w wr):=FJ.out.trans (hq.below.mono FJ.out.size);obtain⟨q,OA⟩:∃q,q=j-o:=⟨_,rfl⟩
      have Eg:m j=A q:=by rw[HM.out j Aa,if_pos ⟨by trivial,Bg⟩,OA]
      have Ii:q<n:=by omega
      have k1:=Q2m hq (t:=1) (.inl rfl) (z:=130) (by omega) (rr:=3) rfl Aa;rw[Eg,if_neg (by decide),if_neg (by decide)] at k1;have K1:=Q0a k1;have AT:=Q0a Aa;have HJ:=Q0a Cb;clear hq k1 Aa Cb;have h1:(8*(o:Int))<=8*(j:Int):=by omega
      have h2:8*(j:Int)<8*(o:Int)+8*(n:Int):=by omega
      have hd:Int.tdiv (8*(o:Int)) 8=(o:Int):=by rw[J0Z (by omega)];omega
      have ht:((j:Int)-(o:Int)).toNat=q:=by omega
      have h3:0<=(j:Int)-(o:Int):=by omega
      have h4:(j:Int)-(o:Int)<(n:Int):=by omega
      obtain⟨g,of_,Pk,Ak,_⟩:=HA.out.read OS.out Ii;have x:=Ak wr OS.out;clear Ak;subst Pk;subst OA;go_wp2_with fail;clear x ht h1 h2 h3 h4 hd;refine K1.out.mono ?_;rintro rr w6⟨rfl,hq⟩;have k2:=Q2m hq (t:=2) (.inr rfl) (z:=200) (by omega) (rr:=1+r0) rfl AT.out;rw[Eg] at k2;have As:=Eq.out.1;clear hq K1 Eg;rcases IB.out.1 with hb|hb
      ·rw[hb] at As k2;rw[if_pos rfl,if_pos rfl] at k2;have K2:=Q0a k2;have Bk:bits .and .i64 (1+(r0:Int)) 1=0:=As;clear k2 As hb;go_wp2_with fail;refine K2.out.mono ?_;rintro rr w7⟨rfl,hq⟩;have DG:=Q0a hq;clear hq K2;go_wp2_with fail;go_roundg (128-(j+1))
       case measure=>have:=HJ.out;have:=AT.out;omega
       case rel=>exact⟨j+1,by go_num,by have:=AT.out;omega,DG.out⟩
      ·rw[hb] at As k2;rw[if_neg (by decide),if_neg (by decide)] at k2;have K2:=Q0a k2;have Bk:bits .and .i64 (1+(r0:Int)) 1=1:=As;clear k2 As hb;go_wp2_with fail;refine K2.out.mono ?_;rintro rr w7⟨rfl,hq⟩;have DG:=Q0a hq;clear hq K2;go_wp2_with fail;go_roundg (128-(j+1))
       case measure=>have:=HJ.out;have:=AT.out;omega
       case rel=>exact⟨j+1,by go_num,by have:=AT.out;omega,DG.out⟩
     case neg =>
      have Eg:m j=0:=by rw[HM.out j Aa,if_neg (fun hc=>Bg hc.2)]
      have k1:=Q2m hq (t:=1) (.inl rfl) (z:=130) (by omega) (rr:=3) rfl Aa;rw[Eg,if_neg (by decide),if_neg (by decide)] at k1;have K1:=Q0a k1;have AT:=Q0a Aa;have HJ:=Q0a Cb;clear hq k1 Aa Cb;by_cases NI:o<=j
      case pos =>
       have h1:(8*(o:Int))<=8*(j:Int):=by omega
       have h2:8*(o:Int)+8*(n:Int)<=8*(j:Int):=by omega
       go_wp2_with fail;clear h1 h2;refine K1.out.mono ?_;rintro rr w6⟨rfl,hq⟩;have k2:=Q2m hq (t:=2) (.inr rfl) (z:=200) (by omega) (rr:=1+r0) rfl AT.out;rw[Eg] at k2;have As:=Eq.out.1;clear hq K1 Eg;rcases IB.out.1 with hb|hb
       ·rw[hb] at As k2;rw[if_pos rfl,if_pos rfl] at k2;have K2:=Q0a k2;have Bk:bits .and .i64 (1+(r0:Int)) 1=0:=As;clear k2 As hb;go_wp2_with fail;refine K2.out.mono ?_;rintro rr w7⟨rfl,hq⟩;have DG:=Q0a hq;clear hq K2;go_wp2_with fail;go_roundg (128-(j+1))
        case measure=>have:=HJ.out;have:=AT.out;omega
        case rel=>exact⟨j+1,by go_num,by have:=AT.out;omega,DG.out⟩
       ·rw[hb] at As k2;rw[if_neg (by decide),if_neg (by decide)] at k2;have K2:=Q0a k2;have Bk:bits .and .i64 (1+(r0:Int)) 1=1:=As;clear k2 As hb;go_wp2_with fail;refine K2.out.mono ?_;rintro rr w7⟨rfl,hq⟩;have DG:=Q0a hq;clear hq K2;go_wp2_with fail;go_roundg (128-(j+1))
        case measure=>have:=HJ.out;have:=AT.out;omega
        case rel=>exact⟨j+1,by go_num,by have:=AT.out;omega,DG.out⟩
      case neg =>
       have h1:8*(j:Int)<(8*(o:Int)):=by omega
       go_wp2_with fail;clear h1;refine K1.out.mono ?_;rintro rr w6⟨rfl,hq⟩;have k2:=Q2m hq (t:=2) (.inr rfl) (z:=200) (by omega) (rr:=1+r0) rfl AT.out;rw[Eg] at k2;have As:=Eq.out.1;clear hq K1 Eg;rcases IB.out.1 with hb|hb
       ·rw[hb] at As k2;rw[if_pos rfl,if_pos rfl] at k2;have K2:=Q0a k2;have Bk:bits .and .i64 (1+(r0:Int)) 1=0:=As;clear k2 As hb;go_wp2_with fail;refine K2.out.mono ?_;rintro rr w7⟨rfl,hq⟩;have DG:=Q0a hq;clear hq K2;go_wp2_with fail;go_roundg (128-(j+1))
        case measure=>have:=HJ.out;have:=AT.out;omega
        case rel=>exact⟨j+1,by go_num,by have:=AT.out;omega,DG.out⟩
       ·rw[hb] at As k2;rw[if_neg (by decide),if_neg (by decide)] at k2;have K2:=Q0a k2;have Bk:bits .and .i64 (1+(r0:Int)) 1=1:=As;clear k2 As hb;go_wp2_with fail;refine K2.out.mono ?_;rintro rr w7⟨rfl,hq⟩;have DG:=Q0a hq;clear hq K2;go_wp2_with fail;go_roundg (128-(j+1))
        case measure=>have:=HJ.out;have:=AT.out;omega
        case rel=>exact⟨j+1,by go_num,by have:=AT.out;omega,DG.out⟩
    case neg =>
     have k1:=Q9L Oe.out hq;have K1:=Q0a k1;clear hq k1;have ER:j=128:=by omega
     subst ER;have As:=Eq.out.2;go_wp2_with fail;refine K1.out.mono ?_;rintro rr w6⟨e2,m2,rfl,CB,BF,hq⟩;have k2:=Q2m hq (t:=1) (.inl rfl) (z:=128) (by omega) (rr:=15) rfl (j:=0) (by omega);rw[if_neg (by decide),if_neg (by decide)] at k2;have CJ:Hid (∀V,CaS 65536 c k ge 4 f (CW f (enP (1+r0)) m2) [] w0 V->Told w (.bool true) (.returned (.bool true)) V):=fun V h=>⟨rfl,FJ.out.trans (h.below.mono FJ.out.size)⟩
     clear hq K1;rcases IB.out.2 with hb|hb
     ·rw[hb] at As CB;have J0:¬e2=0:=fun h=>CB.1 h rfl
      have My:(e2==0)=false:=by simp[J0]
      have Bk:bits .and .i64 (1+(r0:Int)) 2=0:=As;have K2:=Q0a k2;clear k2 As hb CB BF J0;go_wp2_with fail;refine K2.out.mono ?_;rintro rr w7⟨rfl,hq⟩;have HE:=Q0a (CJ.out w7 hq);clear hq K2 CJ;go_wp2_with fail
      (try go_ret);exact HE.out
     ·rw[hb] at As CB BF;obtain rfl:e2=0:=CB.2 (by decide);rw[BF (by decide)] at k2;have Bk:bits .and .i64 (1+(r0:Int)) 2=2:=As;have K2:=Q0a k2;clear k2 As hb CB BF;go_wp2_with fail;refine K2.out.mono ?_;rintro rr w7⟨rfl,hq⟩;have HE:=Q0a (CJ.out w7 hq);clear hq K2 CJ;go_wp2_with fail
      (try go_ret);exact HE.out
  case neg =>
   have hf:¬o+n<=128:=fun h=>h0 (he.2 h)
   have Ey:1024<8*(o:Int)+8*(n:Int):=by omega
   have IK:(e==0)=false:=by simp[h0]
   have Lr:decide (8*(o:Int)+8*(n:Int)<=1024)=false:=by simp;omega
   clear he;go_wp2_with fail;clear IK Lr Ey
   go_loopg [16] 128 (fun gk iv wr=>∃(j:Nat),iv=.int .i64 j/\j+gk=128/\CaS 65536 c k ge 4 f (CW f (enP (1+r0)) m) [] w0 wr)
   case atStart=>exact⟨0,rfl,rfl,HQ.out⟩
   case round =>
    clear HQ;obtain⟨j,rfl,Cb,hq⟩:=hrel;by_cases Aa:j<128
    case pos =>
     have Ia:(j:Int)<128:=by omega
     have Eb:(0:Int)<=(j:Int):=by omega
     have Eg:m j=0:=by rw[HM.out j Aa,if_neg (fun hc=>h0 hc.1)]
     have k1:=Q2m hq (t:=1) (.inl rfl) (z:=130) (by omega) (rr:=3) rfl Aa;rw[Eg,if_neg (by decide),if_neg (by decide)] at k1;have K1:=Q0a k1;have AT:=Q0a Aa;have HJ:=Q0a Cb;clear hq k1 Aa Cb;have IK:(e==0)=false:=by simp[h0]
     go_wp2_with fail;clear IK;refine K1.out.mono ?_;rintro rr w6⟨rfl,hq⟩;have k2:=Q2m hq (t:=2) (.inr rfl) (z:=200) (by omega) (rr:=1+r0) rfl AT.out;rw[Eg] at k2;have As:=Eq.out.1;clear hq K1 Eg;rcases IB.out.1 with hb|hb
     ·rw[hb] at As k2;rw[if_pos rfl,if_pos rfl] at k2;have K2:=Q0a k2;have Bk:bits .and .i64 (1+(r0:Int)) 1=0:=As;clear k2 As hb;go_wp2_with fail;refine K2.out.mono ?_;rintro rr w7⟨rfl,hq⟩;have DG:=Q0a hq;clear hq K2;go_wp2_with fail;go_roundg (128-(j+1))
      case measure=>have:=HJ.out;have:=AT.out;omega
      case rel=>exact⟨j+1,by go_num,by have:=AT.out;omega,DG.out⟩
     ·rw[hb] at As k2;rw[if_neg (by decide),if_neg (by decide)] at k2;have K2:=Q0a k2;have Bk:bits .and .i64 (1+(r0:Int)) 1=1:=As;clear k2 As hb;go_wp2_with fail;refine K2.out.mono ?_;rintro rr w7⟨rfl,hq⟩;have DG:=Q0a hq;clear hq K2;go_wp2_with fail;go_roundg (128-(j+1))
      case measure=>have:=HJ.out;have:=AT.out;omega
      case rel=>exact⟨j+1,by go_num,by have:=AT.out;omega,DG.out⟩
    case neg =>
     have k1:=Q9L Oe.out hq;have K1:=Q0a k1;clear hq k1;have ER:j=128:=by omega
     subst ER;have As:=Eq.out.2;go_wp2_with fail;refine K1.out.mono ?_;rintro rr w6⟨e2,m2,rfl,CB,BF,hq⟩;have k2:=Q2m hq (t:=1) (.inl rfl) (z:=128) (by omega) (rr:=15) rfl (j:=0) (by omega);rw[if_neg (by decide),if_neg (by decide)] at k2;have CJ:Hid (∀V,CaS 65536 c k ge 4 f (CW f (enP (1+r0)) m2) [] w0 V->Told w (.bool true) (.returned (.bool true)) V):=fun V h=>⟨rfl,FJ.out.trans (h.below.mono FJ.out.size)⟩
     clear hq K1;rcases IB.out.2 with hb|hb
     ·rw[hb] at As CB;have J0:¬e2=0:=fun h=>CB.1 h rfl
      have My:(e2==0)=false:=by simp[J0]
      have Bk:bits .and .i64 (1+(r0:Int)) 2=0:=As;have K2:=Q0a k2;clear k2 As hb CB BF J0;go_wp2_with fail;refine K2.out.mono ?_;rintro rr w7⟨rfl,hq⟩;have HE:=Q0a (CJ.out w7 hq);clear hq K2 CJ;go_wp2_with fail
      (try go_ret);exact HE.out
     ·rw[hb] at As CB BF;obtain rfl:e2=0:=CB.2 (by decide);rw[BF (by decide)] at k2;have Bk:bits .and .i64 (1+(r0:Int)) 2=2:=As;have K2:=Q0a k2;clear k2 As hb CB BF;go_wp2_with fail;refine K2.out.mono ?_;rintro rr w7⟨rfl,hq⟩;have HE:=Q0a (CJ.out w7 hq);clear hq K2 CJ;go_wp2_with fail
      (try go_ret);exact HE.out
def Z4b:List (String×DataW Unit):=[("math/bits.deBruijn32tab", Rows.laid_math_bits_deBruijn32tab),("math/bits.deBruijn64tab", Rows.laid_math_bits_deBruijn64tab),("quartermaster/pool.costs", Rows.laid_quartermaster_pool_costs)]
def Z9o:List Int:=[0,1,28,2,29,14,24,3,30,22,20,15,25,17,4,8,31,27,13,23,21,19,16,7,26,12,18,6,11,5,10,9]
theorem g32:prog.globalNamed "math/bits.deBruijn32tab" = some 2:=by kernel_rfl
theorem t32:(prog.globals[2]?).map (·.type)=some 317:=by kernel_rfl
theorem g64:prog.globalNamed "math/bits.deBruijn64tab" = some 1:=by kernel_rfl
theorem Z9c:prog.globalNamed "quartermaster/pool.costs" = some 0:=by kernel_rfl
theorem t64:(prog.globals[1]?).map (·.type)=some 296:=by kernel_rfl
theorem Z9p:(prog.globals[0]?).map (·.type)=some 138:=by kernel_rfl
theorem Q8N{W:World}(h:laidMetH prog Z4b W):Env W:=by
 rw [MakeChecks.laidMetH_plain _ _ _ (by kernel_rfl)] at h;have h1:laidMet prog (("math/bits.deBruijn32tab", Lib.tabData .u8 Z9o)::[("math/bits.deBruijn64tab", Rows.laid_math_bits_deBruijn64tab),("quartermaster/pool.costs", Rows.laid_quartermaster_pool_costs)]) W:=h
 have hA:=Lib.tabIs_of_head g32 t32 underlying317 underlying5 (by kernel_rfl) (by kernel_rfl) h1;have h2:laidMet prog (("math/bits.deBruijn64tab", Lib.tabData .u8 (dbt.map fun (n:Nat)=>(n:Int)))::[("quartermaster/pool.costs", Rows.laid_quartermaster_pool_costs)]) W:=laidMet.tail h1
 have h3:laidMet prog (("quartermaster/pool.costs", Lib.tabData .i64 Z1k)::[]) W:=laidMet.tail h2
 have hB:=Lib.tabIs_of_head g64 t64 underlying296 underlying5 (by kernel_rfl) (by kernel_rfl) h2;have hC:=Lib.tabIs_of_head Z9c Z9p underlying138 underlying3 (by kernel_rfl) (by kernel_rfl) h3;have cB:TabB W:=by
  intro j v hv;have hj:=(Z9J.1 hv).1;have:=hB.cell g64 j (by simpa using hj);rw[this];congr 2;simp[List.getD,hv]
 have cC:TabC W:=by
  intro j v hv;have hj:=(Z9J.1 hv).1;have:=hC.cell Z9c j (by simpa using hj);rw[this];congr 2;simp[List.getD,hv]
 refine⟨?_,cB,cC⟩;have c0:=World.block_lt_of_cell? W ⟨1,0,none⟩ (cB 0 0 rfl);have c1:=World.block_lt_of_cell? W ⟨0,0,none⟩ (cC 0 0 rfl);have c2:=World.block_lt_of_cell? W ⟨2,0,none⟩ (hA.cell g32 0 (by decide));have KB:1<W.heap.size:=c0;have O2:0<W.heap.size:=c1;have Rq:2<W.heap.size:=c2;unfold GB;omega
end Go.Proofs.YtfidemmgofcnmaaGreatDoor
