/- SpaceItems returns true at every input. No condition. Part of its proof. -/
import Derived.Test.YtlakjlmaboioiaaGreatDoorSi01
import Derived.Test.YtlakjlmaboioiaaGreatDoorSi11
import Derived.Test.YtlakjlmaboioiaaGreatDoorSi09
import Derived.Sort.WalkB12
import Derived.Lib.SlicesMore
import Derived.Maps.AppendAt
import Derived.Laws.OwnMore
import Derived.Shelf.RegionOpenPlain
import Derived.Test.YtlakjlmaboioiaaGreatDoorSi10
import Derived.Great.Ranges
import Derived.Deep.LoopGhost
set_option maxHeartbeats 4000000
set_option maxRecDepth 1000000
set_option linter.unusedVariables false
namespace Go.Proofs.YtlakjlmaboioiaaGreatDoor
open Go.RowKit Go.Proofs.Tryz
theorem Q1T {w:World} {B B' size n:Nat} {T:TypeId} {v:Value} {xs:List Value} (h:w.ownsRow B T size v n xs) (hB:B'<=B):w.ownsRow B' T size v n xs:=by
 refine⟨h.1,?_⟩;rcases h.2 with h|⟨g,cap,cur,e,hg,rest⟩
 ·exact .inl h
 ·exact .inr ⟨g,cap,cur,e,J0u hB hg,rest⟩
def kidT (l:List Pl) (a x:Nat):Bool:=decide (x≠0)&&match l[x%256]? with
 | some p=>decide (p.fac=a)
 | none=>false
theorem Z4x {l:List Pl} {a x:Nat} {p:Pl} (hp:pget l 1 x=some p):kidT l a x=(decide (p.fac=a)&&decide (x≠0)):=by
 unfold kidT;rw [(pget_some.1 hp).1];simp [Bool.and_comm]
theorem Z4y {w:World} {S:CO} {fr:List Nat} {N K:Nat} (h:Sep w S.hl) (ok:S.Ok fr N K) {x:Nat} (hx:x<4294967296) {p:Pl} (hp:pget S.l 1 x=some p) (hk:p.kind=1) :
  Calls prog 95 #[.pointer (some ⟨S.c,0,none⟩),.int .u32 x] w (NewHs w (kids S.l x)):=by
 have hlok:=ok.inv.lok;have hO:=Q5z h ok hx hp hk;have HS:=Q0a h;have HLok:=Q0a hlok;have hkids:kids S.l x=(allL S.l 1).filter (kidT S.l p.own):=by
  unfold kids;rw [hp];simp only [hk,if_true];rfl
 rw [hkids];have HLv:Hid (∀w1,Below w.heap.size w w1->w1.cell? ⟨S.c,1,none⟩=some (.pointer (some ⟨S.t,0,none⟩))/\Calls prog 94 #[.pointer (some ⟨S.t,0,none⟩)] w1 (NewHs w1 (allL S.l 1))):=fun w1 hb=>by
  have s1:=(h.grown hb).sep;exact⟨CO.c1 s1,Q7X (h:=S.ht) (CO.sT s1) hlok⟩
 have HGt:Hid (∀w1 y,Below w.heap.size w w1->y∈allL S.l 1->w1.cell? ⟨S.c,1,none⟩=some (.pointer (some ⟨S.t,0,none⟩))/\∃q:Pl,pget S.l 1 y=some q/\Calls prog 93 #[.pointer (some ⟨S.t,0,none⟩),.int .u32 y] w1 (Told w1 (.tuple #[.agg #[.int .i64 (q.kind:Int),.int .i64 (q.at_:Int),.int .i64 (q.fac:Int)],.int .i64 0]))):=fun w1 y hb hy=>by
  have s1:=(h.grown hb).sep;obtain⟨q,hq⟩:=(Q4v (by rw [hlok.1];omega)).1 hy;have hy32:y<4294967296:=by
   obtain⟨a1,a2,_⟩:=pget_some.1 hq;have:=(hlok.2 q (J2G a1)).2;unfold nm at a2;omega
  exact⟨CO.c1 s1,q,hq,Q5w (h:=S.ht) (CO.sT s1) hlok hy32 hq⟩
 have hLl:(allL S.l 1).length<=256:=by
  have:=Q2z S.l 1 S.l.length;unfold allL;rw [hlok.1] at this ⊢;exact this
 obtain⟨i0,hinf,hz0,hz1,hz2⟩:=info_parts Q3f;clear h ok hlok hp hk hkids;generalize p.own=po at *
 generalize hL:allL S.l 1=L at *
 go_enter func95,ntmps95;go_wp2_with fail;refine hO.mono ?_;rintro r w1 ⟨rfl,hb1⟩;obtain⟨c1,hlv⟩:=HLv.out w1 hb1;have HB1:=Q0a hb1;clear hb1;go_wp2_with fail;refine hlv.mono ?_;intro r w2 hx2;obtain⟨a0,cap0,rfl,hb2,hih⟩:=hx2.shape;have HB2:Hid (Below w.heap.size w w2):=HB1.out.trans (hb2.mono HB1.out.size);have HIh:=Q0a hih;have hsz2:=HB2.out.size;clear hx2 hb2 hih hlv c1 hO;go_wp2_with fail
 go_loopg [5,26] L.length (fun gk ov iv wr=>∃k:Nat,iv=.int .i64 k/\k+gk=L.length/\OutH w2 wr ov ((L.take k).filter (kidT S.l po)))
 case atStart=>exact⟨0,rfl,J2W _,by simpa using OutH.nil w2⟩
 case round =>
  obtain⟨k,rfl,hkg,hout⟩:=hrel;have HO:=Q0a hout;have HKG:=Q0a hkg;clear hout;by_cases hlt:k<L.length
  ·obtain⟨y,hy⟩:∃y,L[k]?=some y:=⟨_,J2J hlt⟩
   obtain⟨g0,rfl,hg0,hgl,hcell⟩:=(HIh.out.below HO.out.2).at' k y hy;obtain⟨c1,q,hq,hget⟩:=HGt.out wr y (HB2.out.trans (HO.out.2.mono HB2.out.size)) (J2G hy);have hstep:(L.take (k+1)).filter (kidT S.l po)=(L.take k).filter (kidT S.l po)++if kidT S.l po y=true then [y] else []:=by
    rw [J2o,hy,J2p];simp [List.filter_cons]
   have HStep:=Q0a hstep;have hkt:=Z4x (a:=po) hq;have HKt:=Q0a hkt;have hlen:((L.take k).filter (kidT S.l po)).length<=256:=J0u (J2H _ _) (by rw [J2L];omega);clear hstep hkt hq hy;go_wp2_with fail;refine hget.mono ?_;rintro r w3 ⟨rfl,hb3⟩;have HO3:Hid (∀o,OutH w2 (w3.alloc o) u5 ((L.take k).filter (kidT S.l po))):=fun o=>(HO.out.below hb3).alloc o
   have hsz3:w2.heap.size<=w3.heap.size:=J0u HO.out.2.size hb3.size;clear hb3 hget HO;by_cases hc:kidT S.l po y=true
   ·have hcc:=HKt.out;rw [hc] at hcc;have hcc2:=hcc.symm;rw [J0O,decide_eq_true_eq,decide_eq_true_eq] at hcc2;have hb1:(((q.fac:Nat):Int)==(po:Int))=true:=by simp;omega
    have hb2:(((y:Nat):Int) != 0)=true:=by simp;omega
    have hb3:(((y:Nat):Int)==0)=false:=by simp;omega
    have HC:=Q0a hc;clear hc hcc hcc2;have hlen2:=HO3.out (.cells #[.int .i64 (q.kind:Int),.int .i64 (q.at_:Int),.int .i64 (q.fac:Int)] 69);go_wp2_with (refine wpList_append_own _ rfl (.tmp 47) (.tmp 49) 66 rfl w2.heap.size 27 i0 (.int .u32 0) 1 4 underlying66 hinf hz0 hz1 hz2 rfl (by decide) _ _ _ rfl ((HO3.out _).1.alloc _) ⟨w3.heap.size+1,0,none⟩ 1 1 [.int .u32 y] rfl rfl (Q6G _ _ _) (by simp [Value.oneCell']) (by unfold maxLen;omega) (by omega) (by simp;omega) ?_;intro v' w4 hown' hgrow _;have HR:=Q0a ((HO3.out _).app1 (M:=[y]) hown' hgrow);clear hown' hgrow HO3 hlen2);have HR2:Hid (OutH w2 w4 v' ((L.take (k+1)).filter (kidT S.l po))):=by
     have:=HStep.out;rw [if_pos HC.out] at this;rw [this];exact HR.out
    clear HR;go_roundg (L.length-(k+1))
    case measure=>have:=HKG.out;omega
    case rel=>exact⟨k+1,by go_num,by omega,HR2.out⟩
   ·have hcf:kidT S.l po y=false:=by simpa using hc
    have HR2:Hid (∀o,OutH w2 (w3.alloc o) u5 ((L.take (k+1)).filter (kidT S.l po))):=fun o=>by
     have:=HStep.out;rw [if_neg hc,J2y] at this;rw [this];exact HO3.out o
    have hcc:=HKt.out;rw [hcf] at hcc;have hcase:q.fac≠po∨q.fac=po/\y=0:=by
     by_cases h1:q.fac=po
     ·right;refine⟨h1,?_⟩;rcases Nat.eq_zero_or_pos y with h2|h2
      ·exact h2
      ·exfalso;have h3:y≠0:=by omega
       simp [h1,h3] at hcc
     ·exact .inl h1
    clear hc hcc hcf HO3;rcases hcase with h1|⟨h1,h2⟩
    ·have hb1:=Q4d h1;clear h1;go_wp2_with fail;go_roundg (L.length-(k+1))
     case measure=>have:=HKG.out;omega
     case rel=>exact⟨k+1,by go_num,by omega,HR2.out _⟩
    ·have hb1:(((q.fac:Nat):Int)==(po:Int))=true:=by simp;omega
     have hb2:(((y:Nat):Int) != 0)=false:=by simp;omega
     have hb3:(((y:Nat):Int)==0)=true:=by simp;omega
     clear h1 h2;go_wp2_with fail;go_roundg (L.length-(k+1))
     case measure=>have:=HKG.out;omega
     case rel=>exact⟨k+1,by go_num,by omega,HR2.out _⟩
  ·have hkl:k=L.length:=by omega
   have hout:=HO.out;rw [hkl,J4v] at hout;have HR:Hid (NewHs w (L.filter (kidT S.l po)) (.returned u5) wr):=⟨u5,rfl,Q1T hout.1 hsz2,HB2.out.trans (hout.2.mono hsz2)⟩
   clear hout HO;go_wp2_with fail
   first|exact HR.out|(go_ret;exact HR.out)
theorem Q8a {w:World} {S:CO} {x:Nat} {e:Int} (he:e≠0) (hO:Calls prog 67 #[.pointer (some ⟨S.c,0,none⟩),.int .u32 x] w (Told w (.tuple #[.int .i64 0,.int .i64 e]))) :
  Calls prog 95 #[.pointer (some ⟨S.c,0,none⟩),.int .u32 x] w (NewHs w []):=by
 have hb1:(e==0)=false:=by simpa using he
 go_enter func95,ntmps95;go_wp2_with (go_at_call 67;refine hO.mono ?_;rintro r w1 ⟨rfl,hb⟩;have HB:=Q0a hb;clear hb);have HR:Hid (∀w',w'=w1->NewHs w [] (.returned (.slice none 0 0)) w'):=fun w' e=>⟨_,rfl,World.ownsRow_nil _ _ _ _,by rw [e];exact HB.out⟩
 first|exact HR.out _ rfl|(go_ret;exact HR.out _ rfl)
theorem Q8b {w:World} {S:CO} {fr:List Nat} {N K:Nat} (h:Sep w S.hl) (ok:S.Ok fr N K) {x:Nat} (hx:x<4294967296):Calls prog 95 #[.pointer (some ⟨S.c,0,none⟩),.int .u32 x] w (NewHs w (kids S.l x)):=by
 cases hp:pget S.l 1 x with
 | none =>
  rw [Q4c (fun p h=>by rw [hp] at h;cases h)];exact Q8a (e:=8) (by decide) (Q5c (by decide) (Q4e h ok.inv.lok hx 1 hp))
 | some p =>
  by_cases hk:p.kind=1
  ·exact Z4y h ok hx hp hk
  ·rw [Q4c (fun q h=>by rw [hp] at h;cases h;exact hk)];exact Q8a (e:=10) (by decide) (Q5c (by decide) (Q5y h ok.inv.lok hx 1 hp (by decide) (by omega)))
def encH (x:Nat):Value:=.int .u32 x
theorem OutH.shape {w wr:World} {v:Value} {L:List Nat} (h:OutH w wr v L):∃(a:Option Addr) (cap:Nat),v=.slice a L.length cap:=by
 rcases h.1.2 with ⟨rfl,h0⟩|⟨g,cap,cur,rfl,_⟩
 ·exact⟨none,0,by rw [h0]⟩
 ·exact⟨_,cap,rfl⟩
theorem OutH.shape1 {w wr:World} {v:Value} {L:List Nat} (h:OutH w wr v L) (hl:L≠[]):∃(g cap:Nat),v=.slice (some ⟨g,0,none⟩) L.length cap:=by
 rcases h.1.2 with ⟨rfl,h0⟩|⟨g,cap,cur,rfl,_⟩
 ·exact absurd (J2I h0) hl
 ·exact⟨g,cap,rfl⟩
theorem OutH.parts {w wr:World} {g n cap:Nat} {L:List Nat} (h:OutH w wr (.slice (some ⟨g,0,none⟩) n cap) L):∃cur,n=L.length/\w.heap.size<=g/\wr.heap[g]?=some (.cells cur 27 (0,0))/\L.length<=cap/\cap<=maxLen/\cur.size=cap/\cur.toList.take L.length=Q1i L:=by
 rcases h.1.2 with ⟨h',_⟩|⟨g',cap',cur,h',a1,a2,a3,a4,a5,a6⟩
 ·simp at h'
 ·simp only [Value.slice.injEq,J0H,Addr.mk.injEq,and_true] at h';obtain⟨rfl,rfl,rfl⟩:=h';exact⟨cur,rfl,a1,a2,a3,a4,by simpa using a5,by simpa using a6⟩
theorem OutH.cellAt {w wr:World} {g n cap:Nat} {L:List Nat} (h:OutH w wr (.slice (some ⟨g,0,none⟩) n cap) L) {j x:Nat} (hj:L[j]?=some x):wr.cell? ⟨g,j,none⟩=some (.int .u32 x)/\w.heap.size<=g/\g<wr.heap.size:=by
 obtain⟨cur,_,a1,a2,_,_,_,a6⟩:=h.parts;refine⟨?_,a1,lt_of_block a2⟩;have hv:=Q7o hj;rw [<- a6,J2v] at hv;split at hv
 ·simp only [World.cell?,a2,J3u,J4h,if_false];rw [<- J2S];exact hv
 ·cases hv
theorem OutH.cut {w wr:World} {g n cap x:Nat} {L:List Nat} (h:OutH w wr (.slice (some ⟨g,0,none⟩) n cap) (L++[x])):OutH w wr (.slice (some ⟨g,0,none⟩) L.length cap) L:=by
 obtain⟨cur,_,a1,a2,a3,a4,a5,a6⟩:=h.parts;have hl:L.length+1<=cap:=by simpa using a3
 refine⟨⟨by simp [Q2J],.inr ⟨g,cap,cur,rfl,a1,a2,by omega,a4,by simpa using a5,?_⟩⟩,h.2⟩;have:=congrArg (List.take L.length) a6;rw [J2N,J1d,hands_app,show min L.length (L.length+[x].length)=L.length by simp] at this;rw [J1y,this];have e:=Q2J L;rw [<- e,J2Q]
def Two (w wr:World) (v:Value) (L:List Nat) (u:Value) (M:List Nat):Prop:=OutH w wr v L/\OutH w wr u M/\∀b,v.ownBlock=some b->u.ownBlock≠some b
theorem Two.swap {w wr:World} {v u:Value} {L M:List Nat} (h:Two w wr v L u M):Two w wr u M v L:=⟨h.2.1,h.1,fun b h1 h2=>h.2.2 b h2 h1⟩
theorem Two.below {w wr w1:World} {v u:Value} {L M:List Nat} (h:Two w wr v L u M) (hb:Below wr.heap.size wr w1):Two w w1 v L u M:=⟨h.1.below hb,h.2.1.below hb,h.2.2⟩
theorem Two.alloc {w wr:World} {v u:Value} {L M:List Nat} (h:Two w wr v L u M) (o:Obj):Two w (wr.alloc o) v L u M:=⟨h.1.alloc o,h.2.1.alloc o,h.2.2⟩
theorem Two.cut {w wr:World} {g n cap x:Nat} {u:Value} {L M:List Nat} (h:Two w wr (.slice (some ⟨g,0,none⟩) n cap) (L++[x]) u M):Two w wr (.slice (some ⟨g,0,none⟩) L.length cap) L u M:=⟨h.1.cut,h.2.1,h.2.2⟩
theorem Two.app {w wr w1:World} {v v' u:Value} {L M X:List Nat} (h:Two w wr v L u M) (hown:w1.ownsRow w.heap.size 27 1 v' (L.length+X.length) (Q1i L++Q1i X)) (hg:wr.grownBy w1 v.ownBlock) (hat:v'.ownBlock=v.ownBlock∨v'.ownBlock=some wr.heap.size):Two w w1 v' (L++X) u M:=by
 obtain⟨h1,h2,h3⟩:=h;have hb:Below w.heap.size w w1:=h1.2.trans ((Below.refl _ wr).mono h1.2.size |>.grown hg h1.2.size (fun b hb=>(h1.1.lt b hb).1));refine⟨h1.app0 hown hg,⟨h2.1.kept hg ?_,hb⟩,fun b e1 e2=>?_⟩
 ·cases hv:v.ownBlock with
  | none=>cases hu:u.ownBlock with
   | none=>exact .inl rfl
   | some c=>exact .inr (by simp)
  | some b=>exact .inr (fun e=>h3 b hv e)
 ·rcases hat with e|e
  ·exact h3 b (e ▸ e1) e2
  ·rw [e] at e1;cases e1;exact absurd (h2.1.lt _ e2).2 (by omega)
theorem Z7N {w:World} {B B':Nat} {v:Value} {L M:List Nat} {a:Option Addr} {cap:Nat} {ty:TypeId} (h:w.ownsRow B 27 1 v L.length (Q1i L)) (hM:IsHs B' M a w) (hn:L.length+M.length<=65536) (hB:B<=w.heap.size) :
  ∃v' w',(Builtin.append_ #[66,66] ty #[v,.slice a M.length (match a with|none=>0|some _=>cap)]).run prog w=.ok v' w'/\w'.ownsRow B 27 1 v' (L.length+M.length) (Q1i L++Q1i M)/\w.grownBy w' v.ownBlock/\(v'.ownBlock=v.ownBlock∨v'.ownBlock=some w.heap.size):=by
 obtain⟨i0,hinf,hz0,hz1,hz2⟩:=info_parts Q3f;cases a with
 | none =>
  have hM0:M=[]:=by
   cases M with
   | nil=>rfl
   | cons x r=>obtain⟨g,h1,_⟩:=hM.at' 0 x rfl;cases h1
  subst hM0;exact⟨v,w,run_append_owned_none w B 66 ty 27 i0 1 underlying66 hinf v _ _ h,by simpa [Q1i] using h,⟨rfl,rfl,rfl,J0t _,fun _ _ _=>rfl⟩,.inl rfl⟩
 | some ad =>
  obtain⟨v',w',e1,e2,e3,_,e5⟩:=run_append_own_at (P:=prog) w B 66 ty 27 i0 (.int .u32 0) 1 4 underlying66 hinf hz0 hz1 hz2 rfl (by decide) v _ _ h ad M.length cap (Q1i M) (by simp [Q2J]) (fun j u hj=>by
   have hj':j<M.length:=by have:=(J0K.1 hj).1;simpa [Q2J] using this
   obtain⟨g,g1,_,_,g4⟩:=hM.at' j M[j] (J2J hj');cases g1;rw [Q7o (J2J hj')] at hj;cases hj;have e:(⟨g,0,none⟩:Addr).add j=⟨g,j,none⟩:=by unfold Addr.add;split <;> simp_all
   rw [e];exact g4) (fun u hu=>by
    obtain⟨x,_,rfl⟩:=J0z.1 hu;rfl) (by unfold maxLen;omega) (by omega) hB
  exact⟨v',w',e1,e2,e3,e5⟩
theorem Q9o {w wr:World} {g n cap:Nat} {L:List Nat} (h:OutH w wr (.slice (some ⟨g,0,none⟩) n cap) L):Go.Sort.Holds encH wr g 0 L.toArray:=by
 obtain⟨cur,_,a1,a2,_,_,_,a6⟩:=h.parts;intro j hj;have hj':j<L.length:=by simpa using hj
 have hx:=J2J hj';refine⟨?_,by simp [World.frozen?,a2]⟩;have:=(h.cellAt hx).1;rw [J2W,this,getElem!_pos _ j hj];simp [encH]
theorem Q6h (cur:Array Value) (F:Array Nat) (h:F.size<=cur.size):(Go.Sort.putCells encH 0 F cur).toList.take F.size=F.toList.map encH:=by
 apply J2a
 intro j;by_cases hj:j<F.size
 ·rw [J4D hj,J2S];simp [Go.Sort.putCells,hj,show j<cur.size by omega]
 ·rw [J4E (by omega),J2h (by simp;omega)]
theorem Z4z {w:World} {g n:Nat} {cur:Array Value} {e:TypeId} (d:Array Nat) (hb:w.heap[g]?=some (.cells cur e (0,0))) :
  (Go.Sort.putRow encH (Go.Sort.ahead w n) g 0 d).heap[g]?=some (.cells (Go.Sort.putCells encH 0 d cur) e (0,0)):=by
 have hg:g<w.heap.size:=(J4F.1 hb).1;simp [Go.Sort.putRow,Go.Sort.mapBlock,Go.Sort.ahead,Array.getElem?_modify,hb,Go.Sort.onCells]
theorem Z1N {w:World} {g n:Nat} (d:Array Nat):w.grownBy (Go.Sort.putRow encH (Go.Sort.ahead w n) g 0 d) (some g):=by
 refine⟨rfl,rfl,rfl,by simp [Go.Sort.putRow,Go.Sort.mapBlock,Go.Sort.ahead],fun k hk hne=>?_⟩;have:g≠k:=fun e=>hne (by rw [e])
 simp [Go.Sort.putRow,Go.Sort.mapBlock,Go.Sort.ahead,Array.getElem?_modify,this]
theorem OutH.reversed {w wr:World} {g n cap k:Nat} {L:List Nat} (h:OutH w wr (.slice (some ⟨g,0,none⟩) n cap) L):OutH w (Go.Sort.putRow encH (Go.Sort.ahead wr k) g 0 L.toArray.reverse) (.slice (some ⟨g,0,none⟩) n cap) L.reverse:=by
 obtain⟨cur,rfl,a1,a2,a3,a4,a5,a6⟩:=h.parts;have hgr:=Z1N (w:=wr) (g:=g) (n:=k) L.toArray.reverse;have hsz:L.toArray.reverse.size=L.length:=by simp
 refine⟨⟨by simp [Q2J],.inr ⟨g,cap,_,by rw [J4G],a1,Z4z _ a2,by simpa using a3,a4,by simp [Go.Sort.putCells,a5],?_⟩⟩,h.2.trans ((Below.refl _ wr).mono h.2.size |>.grown hgr h.2.size (fun b hb=>by cases hb;exact a1))⟩;have e:L.reverse.length*1=L.toArray.reverse.size:=by simp
 rw [e,Q6h _ _ (by rw [hsz,a5];exact a3)];simp [Q1i,encH]
theorem NewHs.shape0 {w:World} {L:List Nat} {r:Ending} {w':World} (h:NewHs w L r w'):∃(a:Option Addr) (cap:Nat),r=.returned (.slice a L.length cap)/\Below w.heap.size w w'/\IsHs w.heap.size L a w'/\(a=none->cap=0):=by
 obtain⟨v,rfl,⟨h1,h2⟩,hb⟩:=h;have h:=NewHs.shape (w:=w) (L:=L) (w':=w') (r:=.returned v) ⟨v,rfl,⟨h1,h2⟩,hb⟩;obtain⟨a,cap,e,hb',hi⟩:=h;refine⟨a,cap,e,hb',hi,fun ha=>?_⟩;subst ha;rcases h2 with ⟨rfl,h0⟩|⟨g,cap',cur,rfl,_⟩
 ·simp only [Ending.returned.injEq,Value.slice.injEq] at e;omega
 ·simp at e
theorem Z8V {w:World} {B B':Nat} {v:Value} {L M:List Nat} {a:Option Addr} {cap:Nat} {ty:TypeId} (h:w.ownsRow B 27 1 v L.length (Q1i L)) (hM:IsHs B' M a w) (ha:a=none->cap=0) (hn:L.length+M.length<=65536) (hB:B<=w.heap.size) :
  ∃v' w',(Builtin.append_ #[66,66] ty #[v,.slice a M.length cap]).run prog w=.ok v' w'/\w'.ownsRow B 27 1 v' (L.length+M.length) (Q1i L++Q1i M)/\w.grownBy w' v.ownBlock/\(v'.ownBlock=v.ownBlock∨v'.ownBlock=some w.heap.size):=by
 have:=Z7N (ty:=ty) (cap:=cap) h hM hn hB;cases a with
 | none=>rw [ha rfl];exact this
 | some ad=>exact this
open Go.Sort (Holds putRow holds_putRow holds_ahead putRow_self reverseLoop swp size_swp)
theorem Q9p (blk cap:Nat) (d:Array Nat) (w:World) (hH:Holds encH w blk 0 d) (hsz:d.size<=65536) :
  Calls prog 96 #[.slice (some ⟨blk,0,none⟩) d.size cap] w fun e w'=>e=.returned (.tuple #[])/\∃n,w'=putRow encH (Go.Sort.ahead w n) blk 0 d.reverse:=by
 go_enter func96,ntmps96;go_wp2_with fail
 go_loopg [2,3] d.size (fun k s2 s3 wr=>∃(i jn:Nat) (jz:Int) (dk:Array Nat) (n:Nat),s2=.int .i64 i/\s3=.int .i64 jz/\((i:Int)<jz->jz=jn/\jn<d.size)/\(¬(i:Int)<jz->¬i<jn)/\jn-i<=k /\
  dk.size=d.size/\wr=putRow encH (Go.Sort.ahead w n) blk 0 dk/\reverseLoop i jn dk=reverseLoop 0 (d.size-1) d)
 case atStart=>exact⟨0,d.size-1,(d.size:Int)-1,d,0,rfl,rfl,fun h=>⟨by omega,by omega⟩,fun h=>by omega,by omega,rfl,(putRow_self encH w blk 0 d hH).symm,rfl⟩
 case round =>
  obtain⟨i,jn,jz,dk,n,rfl,rfl,h1,h2,hk,hds,hwr,heq⟩:=hrel;by_cases hlt:(i:Int)<jz
  ·obtain⟨rfl,hjn⟩:=h1 hlt;have hij:i<jn:=by omega
   have hHk:Holds encH wr blk 0 dk:=by rw [hwr];exact holds_putRow encH _ blk 0 d dk (holds_ahead encH w n blk 0 d hH) hds
   obtain⟨ci,fi⟩:=hHk i (by omega);obtain⟨cj,fj⟩:=hHk jn (by omega);have A:Go.Aside (wr=putRow encH (Go.Sort.ahead w n) blk 0 dk):=hwr;have SW:Hid (((wr.setCell ⟨blk,i,none⟩ (.int .u32 (dk[jn]!:Int))).setCell ⟨blk,jn,none⟩ (.int .u32 (dk[i]!:Int))).drew=putRow encH (Go.Sort.ahead w (n+1)) blk 0 (swp dk i jn)):=by
    have:=swap_world encH (off:=0) (i:=i) (j:=jn) (by omega) (by omega) hwr rfl rfl;rw [J2W,J2W] at this;exact this
   clear hwr hHk hH h1 h2;go_wp2_with fail;rw [J2W] at ci fi cj fj;unfold encH at ci cj;go_region
   all_goals
    go_wp2_with fail;go_roundg (jn-1-(i+1))
    case measure=>omega
    case rel =>
     rw [reverseLoop,if_pos hij] at heq;exact⟨i+1,jn-1,(jn:Int)-1,swp dk i jn,n+1,by go_num,by go_num,fun h=>⟨by omega,by omega⟩,fun h=>by omega,J0t _,by rw [size_swp];exact hds,
      (by have hsw:=SW.out;first|exact hsw|(simp only [getElem!_pos dk jn (by omega)] at hsw;exact hsw)),heq⟩
  ·have hnot:=h2 hlt;go_wp2_with fail
   first|go_end0|skip
   refine⟨rfl,n,?_⟩;rw [reverseLoop,if_neg hnot] at heq;rw [<- Go.Lib.reverseLoop_reverse,<- heq]
end Go.Proofs.YtlakjlmaboioiaaGreatDoor
namespace Go.Proofs.YtlakjlmaboioiaaGreatDoor
open Go.RowKit Go.Proofs.Tryz
theorem Z6L (l:List Pl) (hl:l.length<=256) (x:Nat):(kids l x).length<=256:=by
 unfold kids;split
 ·split
  ·unfold Z5C;refine J0u (J2H _ _) ?_;have:=Q2z l 1 l.length;unfold allL;omega
  ·simp
 ·simp
structure UndI (l:List Pl) (N x:Nat) (ws os:List Nat):Prop where
 eq:os++rest l N ws=pre l N x
theorem UndI.start (l:List Pl) (N x:Nat):UndI l N x [x] []:=⟨by simp [rest]⟩
theorem UndI.step {l:List Pl} {N x y:Nat} {ws os:List Nat} (t:Tre l N) (u:UndI l N x (ws++[y]) os):UndI l N x (ws++kids l y) (os++[y])/\(rest l N (ws++kids l y)).length<(rest l N (ws++[y])).length:=by
 have h:=u.eq;rw [Q7D t] at h ⊢;exact⟨⟨by rw [J1s];exact h⟩,by simp⟩
theorem UndI.len {l:List Pl} {N x:Nat} {ws os:List Nat} (t:Tre l N) (u:UndI l N x ws os):ws.length<=256/\os.length<=256:=by
 have h1:=congrArg List.length u.eq;have h2:=Z2O t x;have h3:=Z5F l N ws;rw [J1d] at h1;omega
theorem UndI.name {l:List Pl} {N x y:Nat} {ws os:List Nat} (t:Tre l N) (ok:LOk l) (hx:x<4294967296) (u:UndI l N x (ws++[y]) os):y<4294967296:=by
 have hy:y∈pre l N x:=by
  rw [<- u.eq,Q7D t];simp
 rcases Q4X t hy with rfl|⟨_,q,hq⟩
 ·exact hx
 ·obtain⟨a1,a2,_⟩:=pget_some.1 hq;have:=(ok.2 q (J2G a1)).2;unfold nm at a2;omega
theorem UndI.done {l:List Pl} {N x:Nat} {os:List Nat} (t:Tre l N) (u:UndI l N x [] os):os.reverse=Q0D l N x++[x]:=by
 have h:=u.eq;rw [show rest l N []=[] from rfl,J2y,Q4b t] at h;rw [h];simp
theorem OutH.single (w:World) (x:Nat):OutH w (w.alloc (.cells #[.int .u32 x] 27)) (.slice (some ⟨w.heap.size,0,none⟩) 1 1) [x]:=
 ⟨⟨rfl,.inr ⟨w.heap.size,1,#[.int .u32 x],rfl,J0t _,Cells.new w 27 [.int .u32 x],J0t 1,(by decide:1<=maxLen),rfl,rfl⟩⟩,(Below.refl _ _).alloc (J0t _) _⟩
theorem Two.start (w:World) (x:Nat):Two w (w.alloc (.cells #[.int .u32 x] 27)) (.slice (some ⟨w.heap.size,0,none⟩) 1 1) [x] (.slice none 0 0) []:=
 ⟨OutH.single w x,(OutH.nil w).alloc _,fun b _ h=>by simp [Value.ownBlock] at h⟩
theorem Two.drew {w wr:World} {v u:Value} {L M:List Nat} (h:Two w wr v L u M):Two w wr.drew v L u M:=h.below (Below.refl _ _).drew
theorem Z6M (w:World) (y:Nat):IsHs w.heap.size [y] (some ⟨w.heap.size,0,none⟩) (w.alloc (.cells #[.int .u32 y] 27)):=⟨fun j x hj=>by
 match j,hj with
 | 0,hj =>
  cases hj
  exact⟨_,rfl,J0t _,by simp,(Cells.new w 27 [.int .u32 y]).cell 0 _ rfl⟩
 | k+1,hj=>cases hj⟩
theorem Z1O {w:World} {S:CO} {fr:List Nat} {N K:Nat} (h:Sep w S.hl) (ok:S.Ok fr N K) {x:Nat} (hx:x<4294967296) :
  Calls prog 33 #[.pointer (some ⟨S.c,0,none⟩),.int .u32 x] w (NewHs w (Q0D S.l S.P.q.next.toNat x)):=by
 have tre:=ok.inv.tree;have lok:=ok.inv.lok;have HM:Hid (∀(w1:World) (y:Nat),Below w.heap.size w w1->y<4294967296->Calls prog 95 #[.pointer (some ⟨S.c,0,none⟩),.int .u32 y] w1 (NewHs w1 (kids S.l y))):=fun w1 y hb hy=>Q8b (h.grown hb).sep ok hy
 generalize S.P.q.next.toNat=M at *
 have HTre:=Q0a tre;have HLok:=Q0a lok;have HX:=Q0a hx;have HS:=Q0a (Two.start w x);clear h ok tre lok hx;go_enter func33,ntmps33;go_wp2_with fail
 go_loopg [5,6] (pre S.l M x).length (fun gk ov wv wr=>∃ws os,Two w wr wv ws ov os/\UndI S.l M x ws os/\(rest S.l M ws).length<=gk)
 case atStart=>exact⟨[x],[],HS.out,UndI.start _ _ _,by have:=(UndI.start S.l M x).eq;rw [J2C] at this;rw [this];exact J0t _⟩
 case round =>
  obtain⟨ws,os,htwo,hu,hgk⟩:=hrel;obtain⟨l1,l2⟩:=hu.len HTre.out;have hcc:ws=[]∨∃(ws':List Nat) (y:Nat),ws=ws'++[y]:=by
   rcases J4H ws with h|⟨a,b,h⟩
   ·exact .inl h
   ·exact .inr ⟨a,b,by rw [h,J4I]⟩
  rcases hcc with rfl|⟨ws',y,rfl⟩
  ·have hdone:=hu.done HTre.out;have hne:os≠[]:=fun e=>by rw [e] at hdone;simp at hdone
   obtain⟨aw,cw,rfl⟩:=htwo.1.shape;obtain⟨g,co,rfl⟩:=htwo.2.1.shape1 hne;obtain⟨_,_,_,_,hco,_⟩:=htwo.2.1.parts;have hrev:=Q9p g co os.toArray wr (Q9o htwo.2.1) (by simp;omega);have hfin:∀n,NewHs w (Q0D S.l M x) (.returned (.slice (some ⟨g,0,none⟩) (Q0D S.l M x).length co)) (Go.Sort.putRow encH (Go.Sort.ahead wr n) g 0 os.toArray.reverse):=fun n=>by
    have h1:=htwo.2.1.reversed (k:=n);rw [hdone] at h1;have h2:=h1.cut;exact⟨_,rfl,h2.1,h2.2⟩
   have hlen:os.length=(Q0D S.l M x).length+1:=by
    have:=congrArg List.length hdone
    simpa using this
   have HF:=Q0a hfin;rw [show os.toArray.size=os.length from rfl] at hrev;rw [hlen] at hrev ⊢;have hm:(Q0D S.l M x).length<=256:=by omega
   have hcapi:(((Q0D S.l M x).length:Nat):Int)<=(co:Int):=by omega
   have hcap:(Q0D S.l M x).length<=co:=by omega
   have hw:IntKind.i64.wrap ((Q0D S.l M x).length:Int)=((Q0D S.l M x).length:Int):=Go.IntWalk.i64_in _ (by omega);clear hfin htwo hu hgk hdone hne l1 l2 hlen;generalize (Q0D S.l M x).length=m at *
   generalize NewHs w (Q0D S.l M x)=Q at *
   go_wp2_with fail;refine hrev.mono ?_;rintro r w1 ⟨rfl,n,rfl⟩;have HQ:=Q0a (HF.out n);clear hrev HF;generalize Go.Sort.putRow encH (Go.Sort.ahead wr n) g 0 os.toArray.reverse=w1 at *
   go_wp2_with fail
   first|exact HQ.out|(go_ret;exact HQ.out)
  ·obtain⟨g,cw,rfl⟩:=htwo.1.shape1 (by simp);obtain⟨_,_,_,_,hcw,_⟩:=htwo.1.parts;have hcap:ws'.length<=cw:=by
    have:ws'.length+1<=cw:=by simpa using hcw
    omega
   have hcapi:((ws'.length:Nat):Int)<=(cw:Int):=by omega
   clear hcw;obtain⟨hcell,_,_⟩:=htwo.1.cellAt (j:=ws'.length) (x:=y) (by simp);have hy:=hu.name HTre.out HLok.out HX.out;obtain⟨hstep,hlt⟩:=hu.step HTre.out;have hb:=htwo.1.2;have hmade:=HM.out wr.drew y hb.drew hy;have hkl:=Z6L S.l (by rw [HLok.out.1];exact J0t _) y;have hl:ws'.length+1<=256:=by simpa using l1
   have HApp:Hid (∀w1 am cm,Below wr.drew.heap.size wr.drew w1->IsHs wr.drew.heap.size (kids S.l y) am w1->(am=none->cm=0)->∃v1 w2,(Builtin.append_ #[66,66] 66 #[.slice (some ⟨g,0,none⟩) ws'.length cw,.slice am (kids S.l y).length cm]).run prog w1=.ok v1 w2/\Two w w2 v1 (ws'++kids S.l y) u5 os):=fun w1 am cm hb1 hi ha0=>by
    have t1:Two w w1 (.slice (some ⟨g,0,none⟩) ws'.length cw) ws' u5 os:=htwo.cut.drew.below hb1;obtain⟨v1,w2,e1,e2,e3,e4⟩:=Z8V (ty:=66) (a:=am) (cap:=cm) t1.1.1 hi ha0 (by omega) t1.1.2.size;exact⟨v1,w2,e1,t1.app e2 e3 e4⟩
   have HApp2:Hid (∀w2 v1 L,Two w w2 v1 L u5 os->∃v2 w3,(Builtin.append_ #[66,66] 66 #[u5,.slice (some ⟨w2.heap.size,0,none⟩) 1 1]).run prog (w2.alloc (.cells #[.int .u32 y] 27))=.ok v2 w3/\Two w w3 v1 L v2 (os++[y])):=fun w2 v1 L t=>by
    have t1:=(t.alloc (.cells #[.int .u32 y] 27)).swap;obtain⟨v2,w3,e1,e2,e3,e4⟩:=Z7N (ty:=66) (a:=some ⟨w2.heap.size,0,none⟩) (cap:=1) t1.1.1 (Z6M w2 y) (by simp;omega) t1.1.2.size;exact⟨v2,w3,e1,(t1.app e2 e3 e4).swap⟩
   have HStep:=Q0a hstep;have HGk:=Q0a (J0v hlt hgk);have hw:IntKind.i64.wrap (ws'.length:Int)=(ws'.length:Int):=Go.IntWalk.i64_in _ (by omega);rw [show (ws'++[y]).length=ws'.length+1 by simp] at *
   clear htwo hu hgk l1 l2 hstep hlt hb hkl hy;generalize hkk:kids S.l y=kk at *
   generalize hn:ws'.length=n at *
   go_wp2_with fail
   go_region_law (first|(go_simp;go_at_call 95;refine hmade.mono ?_;intro r w1 hnew;obtain⟨am,cm,rfl,hbm,hism,hac⟩:=hnew.shape0;obtain⟨v1,w2,r1,r2⟩:=HApp.out w1 am cm hbm hism hac;clear hac;have HR:=Q0a r1;have HT2:=Q0a r2;clear r1 r2 hbm hism hnew)|(refine Q0y rfl (.tmp 23) (.tmp 26) 66 66 rfl _ _ (by simp [Act.eval]) (by simp [Act.eval]) HR.out ?_))
   all_goals
    obtain⟨v2,w3,r3,r4⟩:=HApp2.out _ _ _ HT2.out;have HT3:=Q0a r4;clear r4;go_wp2_with (at_builtin;refine Lib.wpList_append_run _ rfl _ _ _ _ rfl _ _ rfl rfl _ _ r3 ?_);go_roundg (rest S.l M (ws'++kk)).length
    case measure=>exact HGk.out
    case rel=>exact⟨_,_,HT3.out,HStep.out,J0t _⟩
theorem Q8c {w w1:World} {B size n:Nat} {T:TypeId} {v:Value} {xs:List Value} (h:w.ownsRow B T size v n xs) (hk:∀b,v.ownBlock=some b->w1.heap[b]?=w.heap[b]?):w1.ownsRow B T size v n xs:=by
 refine⟨h.1,?_⟩;rcases h.2 with h|⟨g,cap,cur,rfl,hB,hg,rest⟩
 ·exact .inl h
 ·exact .inr ⟨g,cap,cur,rfl,hB,(hk g rfl).trans hg,rest⟩
theorem Z1P {w w2:World} {S:CO} {fr:List Nat} {N K:Nat} (h:Sep w S.hl) (ok:S.Ok fr N K) (hK:K<=1048576) {x:Nat} (hx:x<4294967296) {p:Pl} (hp:pget S.l 1 x=some p) (h0:x≠0) (hk:kids S.l x=[]) (hb:Below w.heap.size w w2) :
  w2.cell? ⟨S.c,1,none⟩=some (.pointer (some ⟨S.t,0,none⟩))/\Calls prog 172 #[.pointer (some ⟨S.t,0,none⟩),.int .u32 x] w2 fun r w3=>r=.returned (.int .i64 0)/\w3.cell? ⟨S.c,2,none⟩=some (.pointer (some ⟨S.g,0,none⟩))/\S.c<w3.heap.size /\
   Calls prog 173 #[.pointer (some ⟨S.g,0,none⟩),.slice (some ⟨w3.heap.size,0,none⟩) 1 1] (w3.alloc (.cells #[.int .i64 x] 3)) fun r w4=>∃z:Int,r=.returned (.int .i64 z)/\Z8P S x w (.returned (.int .i64 0)) w4:=by
 have s2:=h.grown hb;have hnow:=ok.now;refine⟨CO.c1 s2.sep,?_⟩;refine Calls.mono (Z1z (h:=S.ht) (CO.sT s2.sep) ok.inv.lok hx hp) ?_;rintro r w3 ⟨rfl,st⟩;have s3:=s2.trans (CO.stepL s2.sep _ st);refine⟨rfl,CO.c2 (S:=S.setL (S.l.set (x%256) {p with st:=2})) s3.sep,(CO.cells s3.sep).lt,?_⟩;have s4:=s3.trans (s3.sep.grown ((Below.refl _ w3).alloc (J0t _) (.cells #[.int .i64 x] 3)));refine Calls.mono (Z6E (CO.sG s4.sep) ok.ov ok.few ok.per.2 (by show S.now<=_;omega) ((Cells.new w3 3 [.int .i64 x]).cell 0 _ rfl)) ?_;rintro r w4 ⟨rv,rfl,hov,st4⟩;have s5:=s4.trans (CO.stepG s4.sep S.now rv (S.ts++[(x,S.now+S.period)]) st4)
 exact⟨_,rfl,.inr (.inr (.inr ⟨p,rv,hp,h0,hk,hov,rfl,s5⟩))⟩
theorem Z6N {w:World} {S:CO} {fr:List Nat} {N K:Nat} (h:Sep w S.hl) (ok:S.Ok fr N K) (hK:K<=1048576) {x:Nat} (hx:x<4294967296) {p:Pl} (hp:pget S.l 1 x=some p) (h0:x≠0) (hk:kids S.l x=[]) :
  Calls prog 98 #[.pointer (some ⟨S.c,0,none⟩),.int .u32 x] w (Z8P S x w):=by
 have hO:Calls prog 30 #[.pointer (some ⟨S.c,0,none⟩),.int .u32 x,.int .i64 0] w (Told w (.tuple #[.agg #[.int .i64 (p.kind:Int),.int .i64 (p.at_:Int),.int .i64 (p.fac:Int)],.int .i64 0])):=Q4f h ok.inv.lok hx 0 hp (.inl rfl);have HM:Hid (∀w1,Below w.heap.size w w1->Calls prog 95 #[.pointer (some ⟨S.c,0,none⟩),.int .u32 x] w1 (NewHs w1 (kids S.l x))):=fun w1 hb=>Q8b (h.grown hb).sep ok hx
 rw [hk] at HM;have HC:Hid (∀w2,Below w.heap.size w w2->_):=fun w2 hb=>Z1P (w2:=w2) h ok hK hx hp h0 hk hb
 have hb1:(((x:Nat):Int)==0)=false:=by simp;omega
 have hw:IntKind.i64.wrap (x:Int)=(x:Int):=Go.IntWalk.i64_in _ (by omega);generalize Z8P S x w=Q at *
 clear h ok hK hx hp h0 hk;go_enter func98,ntmps98;go_wp2_with fail;refine hO.mono ?_;rintro r w1 ⟨rfl,hb⟩;have hba:=hb.alloc hb.size (.cells #[.int .i64 (p.kind:Int),.int .i64 (p.at_:Int),.int .i64 (p.fac:Int)] 69);have hm:=HM.out _ hba;have HB:=Q0a hba;clear hb hba hO HM;go_wp2_with fail;refine hm.mono ?_;intro r w2 hn;obtain⟨am,cm,rfl,hbm,hism⟩:=hn.shape;obtain⟨c1,hkill⟩:=HC.out w2 (HB.out.trans (hbm.mono (by have:=HB.out.size;omega)));clear hn hbm hism hm HB HC;go_wp2_with fail;refine hkill.mono ?_;rintro r w3 ⟨rfl,c2,hlt,hadd⟩;have HA:=Q0a hadd;clear hadd hkill c1;go_wp2_with fail;refine HA.out.mono ?_
 rintro r w4 ⟨z,rfl,hx⟩;have HX:=Q0a hx;clear hx HA;go_wp2_with fail
 first|exact HX.out|(go_ret;exact HX.out)
theorem Q7q {P:Program} {ops:Array Oper} {rest:List Oper} {o:Oper} {a:Act} {w:World} {Q:Exit->Act->World->Prop} (hg:o.guard=none) (t:TypeId) (ho:o.op=.build t #[]) (dst:Option Tmp) (hdst:o.dst=dst) (cells:Array Value)
  (hb:P.built t []=some cells)
  (h:wpList P ops Q rest (a.put dst (.agg cells)) w):wpList P ops Q (o::rest) a w:=by
 subst hdst;have e:(Array.map (fun (x:Nat×Operand)=>match x with|(i,x)=>(i,a.eval x)) #[]).toList=[]:=by simp
 refine wpList_build hg t #[] ho (by rw [e,hb];rfl) ?_;rw [e,hb];exact h
def tabZ:List Value:=(List.replicate 256 (noPl 0)).flatMap Pl.cells
theorem Z1Q:prog.built 264 (([]:List (Nat×Value)))=some tabZ.toArray:=by kernel_rfl
theorem Z1R:(Value.agg tabZ.toArray).cells=tabZ.toArray:=by kernel_rfl
def Z9M (H:HL) (w:World) (r:Ending) (w':World):Prop:=∃t,r=.returned (.pointer (some ⟨t,0,none⟩))/\Step H ((⟨t,List.replicate 256 (noPl 0)⟩:HT).hl++H) w w'
theorem Z6O {w:World} {H:HL} (h:Sep w H):Calls prog 63 #[] w (Z9M H w):=by
 have HR:Hid (Z9M H w (.returned (.pointer (some ⟨w.heap.size,0,none⟩))) (w.alloc (.cells tabZ.toArray 264))):=⟨_,rfl,h.new 264 tabZ⟩
 clear h;have hz:=Z1Q;have hc:=Z1R;generalize tabZ.toArray=Z at *
 go_enter func63,ntmps63
 repeat (first|refine Q7q rfl 264 rfl _ rfl Z hz ?_|refine Go.Great.wpList_boxTo rfl 264 _ rfl _ rfl _ rfl Z hc ?_|go_step)
 first|exact HR.out|(go_ret;exact HR.out)
theorem Z4A (top k i:Nat):fre (uOf []) top k i=(k==top):=by
 have hc:∀k i,clr (uOf []) k i=true:=fun k i=>(clr_iff _ _ _).2 fun p _=>by simp [uOf]
 unfold fre;rw [hc,hc];simp
theorem Z0E (top:Nat):(∀k,k<top->fstG (fre (uOf []) top) top k 0=none)/\fstG (fre (uOf []) top) top top 0=some 0:=by
 refine⟨fun k hk=>Q5l fun i _ hi=>?_,Q5k ?_ (J0t _) ?_ fun i h0 h1=>by omega⟩
 ·rw [J2d];have:i<2 ^ (top-k):=by simpa using hi
  rw [J2f this];show (fre (uOf []) top k i)≠true;rw [Z4A];simp;omega
 ·simp
 ·rw [J3I];show ((List.map _ [0])[0]?).getD false=true;show fre (uOf []) top top 0=true;rw [Z4A];simp
theorem Z4B {c:CA} {d:BD} {a:Nat} {ps':List Nat} (hpg:c.pg=[]) (hps:d.ps=[]) (h:Z9F c d a ps'):a=64/\ps'=[0]:=by
 rcases h with ⟨k,x,i,hx,_⟩|⟨_,k0,i0,hk,hf,hp,ha,hq⟩
 ·rw [hpg] at hx;simp at hx
 ·rw [hps] at hf hp;obtain⟨f1,f2⟩:=Z0E d.top;have hk6:k0=d.top:=by
   rcases J3a k0 d.top with e|e
   ·rw [f1 k0 e] at hf;cases hf
   ·omega
  subst hk6;rw [f2] at hf;cases hf;rw [hps] at hq;exact⟨by rw [ha];unfold addr;omega,by rw [hq];simp⟩
theorem Q9q {P:PL} {n:Nat} (hps:P.d.ps=[]):¬NoRoom P n:=by
 rintro⟨c,hc,_,hn⟩;rw [hps] at hn;have:=hn P.d.top (J0t _);rw [(Z0E P.d.top).2] at this;cases this
theorem Z6P {w:World} {P:PL} (h:Sep w P.hl) {top:Nat} {limit:Int} (hf:FreshP P top limit) (hl:P.cs.length=7) (h1:6<=top) (h0:64<=limit) (hm:limit<=1073741824) :
  Calls prog 65 #[.pointer (some ⟨P.p,0,none⟩),.int .i64 0,.int .i64 1] w fun r w'=>r=.returned (.tuple #[.int .i64 64,.int .i64 0])/\∃P',GotM P [] 0 1 64 P' []/\P'.d.ps=[0]/\(∃b,P'.q.E=[⟨0,b,⟨limit,64,0,-1,0⟩⟩])/\P'.q.next=1/\Step P.hl P'.hl w w':=by
 have ok:=hf.ok hl h1 (by omega) hm;have hpg:=Z6y ok fun j=>Q6F hf j
 obtain⟨t,m,b,hq⟩:=hf.q;have hfe:find P.q.E 0=some ⟨0,b,⟨limit,0,0,-1,0⟩⟩:=by rw [hq];rfl
 refine (Q5b h ok 0 1).mono ?_;rintro r w' (⟨h0,_⟩|⟨_,h0,_⟩|⟨_,⟨e',h2,h3⟩,_⟩|⟨n,e',hn,_,_,h2,_,hr⟩)
 ·exact absurd h0 (by decide)
 ·rw [hfe] at h0;cases h0
 ·rw [hfe] at h2;cases h2;have:((Q0Y 1:Nat):Int)=64:=rfl;rw [this] at h3;simp at h3;omega
 ·have hn1:n=1:=by omega
  subst hn1;rcases hr with ⟨a,P',rfl,g,hst⟩|⟨hno,_⟩
  ·obtain⟨c,_,hc,_,ht⟩:=g.which;obtain⟨rfl,hps'⟩:=Z4B (hpg _ c hc.2) hf.ps ht.which;have gm:=g.gotM ok;obtain⟨hacc,hE,hnx,_⟩:=gm.acc (own:=0) hfe;refine⟨rfl,P',gm,hps',⟨b,?_⟩,?_,hst⟩
   ·rw [hE,hq];simp [Q1V,upd,costK,Q0c]
   ·rw [hnx,hq];rfl
  ·exact absurd hno (Q9q hf.ps)
structure Q6H (S:CO) (top:Nat) (limit:Int) (period:Nat):Prop where
 ok:S.Ok [] 1 0
 l:S.l=newL 64
 ts:S.ts=[]
 now:S.now=0
 period:S.period=period
 top:S.P.d.top=top
 next:S.P.q.next=1
 ps:S.P.d.ps=[0]
 q:∃b,S.P.q.E=[⟨0,b,⟨limit,64,0,-1,0⟩⟩]
 xc:S.xc=x0
 high:∀j,2<=j->S.P.usedOf j=[]
def Z4C (top:Nat) (limit:Int) (period:Nat) (H:HL) (w:World) (r:Ending) (w':World):Prop:=∃S:CO,r=.returned (.pointer (some ⟨S.c,0,none⟩))/\Q6H S top limit period/\Step H (S.hl++H) w w'
theorem Z8W:LOk (List.replicate 256 (noPl 0)):=⟨J0D,fun p hp=>by rw [J0B hp];exact⟨J2u _,J2u _⟩⟩
theorem Z6Q:Fst (List.replicate 256 (noPl 0)) 0 (noPl 0):=⟨rfl,rfl,fun j q h _=>by omega⟩
theorem Z4D {w w1 w2 w3:World} {H:HL} {P:PL} {top period:Nat} {limit:Int} {t g:Nat} (hf:FreshP P top limit) (hl:P.cs.length=7) (h1:6<=top) (h0:64<=limit) (hm:limit<=1073741824) (hp1:1<=period) (hp2:period<=16)
  (s1:Step H (P.hl++H) w w1) (s2:Step (P.hl++H) ((⟨t,List.replicate 256 (noPl 0)⟩:HT).hl++(P.hl++H)) w1 w2) (s3:Step ((⟨t,List.replicate 256 (noPl 0)⟩:HT).hl++(P.hl++H)) (qhl g period 0 none []++((⟨t,List.replicate 256 (noPl 0)⟩:HT).hl++(P.hl++H))) w2 w3) :
  (w3.alloc (.cells #[.pointer (some ⟨P.p,0,none⟩),.pointer (some ⟨t,0,none⟩),.pointer (some ⟨g,0,none⟩)] 142)).cell? ⟨w3.heap.size,0,none⟩=some (.pointer (some ⟨P.p,0,none⟩)) /\
  (w3.alloc (.cells #[.pointer (some ⟨P.p,0,none⟩),.pointer (some ⟨t,0,none⟩),.pointer (some ⟨g,0,none⟩)] 142)).cell? ⟨w3.heap.size,2,none⟩=some (.pointer (some ⟨g,0,none⟩)) /\
  Calls prog 65 #[.pointer (some ⟨P.p,0,none⟩),.int .i64 0,.int .i64 1] (w3.alloc (.cells #[.pointer (some ⟨P.p,0,none⟩),.pointer (some ⟨t,0,none⟩),.pointer (some ⟨g,0,none⟩)] 142)) fun r w4=>r=.returned (.tuple #[.int .i64 64,.int .i64 0])/\w4.cell? ⟨w3.heap.size,1,none⟩=some (.pointer (some ⟨t,0,none⟩)) /\
   Calls prog 66 #[.pointer (some ⟨t,0,none⟩),.agg #[.int .i64 1,.int .i64 64,.int .i64 0]] w4 fun r w5=>(∃x y:Value,r=.returned (.tuple #[x,y]))/\Z4C top limit period H w (.returned (.pointer (some ⟨w3.heap.size,0,none⟩))) w5:=by
 have s123:=(s1.trans s2).trans s3;have s4:=s123.trans (s123.sep.new 142 [.pointer (some ⟨P.p,0,none⟩),.pointer (some ⟨t,0,none⟩),.pointer (some ⟨g,0,none⟩)]);have hc:=Cells.new w3 142 [.pointer (some ⟨P.p,0,none⟩),.pointer (some ⟨t,0,none⟩),.pointer (some ⟨g,0,none⟩)];obtain⟨S,hS⟩:∃S:CO,S=⟨w3.heap.size,P,t,List.replicate 256 (noPl 0),g,period,0,none,[],x0⟩:=⟨_,rfl⟩
 have hperm:((w3.heap.size,isC 142 [.pointer (some ⟨P.p,0,none⟩),.pointer (some ⟨t,0,none⟩),.pointer (some ⟨g,0,none⟩)])::(qhl g period 0 none []++((⟨t,List.replicate 256 (noPl 0)⟩:HT).hl++(P.hl++H)))).Perm (S.hl++H):=by
  refine Q0V fun a=>?_
  rw [hS];simp only [CO.hl,CO.head,CO.ht,CO.qh,hc_append,hc_cons,ptr];omega
 have s5:=s4.perm (J3K _) hperm;have sS:Sep (w3.alloc (.cells #[.pointer (some ⟨P.p,0,none⟩),.pointer (some ⟨t,0,none⟩),.pointer (some ⟨g,0,none⟩)] 142)) S.hl:=s5.sep.left;refine⟨hc.cell 0 _ rfl,hc.cell 2 _ rfl,?_⟩;have sP:=CO.sP sS;have eP:S.P=P:=by rw [hS]
 rw [eP] at sP;refine (Z6P sP hf hl h1 h0 hm).mono ?_;rintro r w4 ⟨rfl,P',gm,hps,hq,hnx,st⟩;have st':Step S.hl (S.setP P').hl _ w4:=CO.stepP sS P' (by rw [gm.same.p,hS]) (by rw [hS];exact st);have c1:=CO.c1 st'.sep;have hput:=Z4l (h:=(S.setP P').ht) (CO.sT st'.sep) (by rw [hS];exact Z8W) (i:=0) (p:=noPl 0) (by rw [hS];exact Z6Q) 1 64 0 0;have ect:S.t=t:=by rw [hS]
 have ecc:S.c=w3.heap.size:=by rw [hS]
 have c1':w4.cell? ⟨w3.heap.size,1,none⟩=some (.pointer (some ⟨t,0,none⟩)):=by
  rw [<- ect,<- ecc];exact c1
 refine⟨rfl,c1',?_⟩;have hput':Calls prog 66 #[.pointer (some ⟨t,0,none⟩),.agg #[.int .i64 1,.int .i64 64,.int .i64 0]] w4 (PutT (S.setP P').ht ⟨1,64,0,1,(noPl 0).age,0⟩ 0 w4):=by
  rw [<- ect];exact hput
 refine hput'.mono ?_;rintro r w5 ⟨rfl,st5⟩;refine⟨⟨_,_,rfl⟩,(S.setP P').setL (newL 64),by show _=Ending.returned (.pointer (some ⟨S.c,0,none⟩));rw [ecc],?_,?_⟩
 ·have hinv:=Z8M hf hl h1 (by omega) hm gm;refine⟨⟨?_,?_,?_,?_,?_,?_,?_,?_⟩,rfl,?_,?_,?_,?_,hnx,hps,hq,by show S.xc=x0;rw [hS],fun j hj=>?_⟩
  ·show Inv P' (newL 64) [] S.xc (S.ts.map Prod.fst);rw [hS];exact hinv
  ·show 1<=S.period/\_;rw [hS];exact⟨hp1,hp2⟩
  ·show ∀x∈S.ts,_;rw [hS];exact fun x hx=>by cases hx
  ·show S.ts.Pairwise _;rw [hS];exact .nil
  ·show ovOk S.rv S.ts.length;rw [hS];exact rfl
  ·show P'.q.next<=_;rw [hnx];decide
  ·show S.now<=0;rw [hS];exact J0t _
  ·intro p hp;rcases Q2d hp with rfl|rfl <;> exact J2u _
  ·show S.ts=[];rw [hS]
  ·show S.now=0;rw [hS]
  ·show S.period=period;rw [hS]
  ·show P'.d.top=top;rw [gm.same.top,hf.etop]
  ·show P'.usedOf j=[];rw [gm.other j (by omega)];unfold PL.usedOf;split
   ·split
    ·rename_i c hc;unfold CA.used;rw [(hf.cs _ c hc).2.2.2];rfl
    ·rfl
   ·rfl
 ·have e1:(S.setP P').ht.l.set 0 ⟨1,64,0,1,(noPl 0).age,0⟩=newL 64:=by rw [hS];rfl
  have st6:Step (S.setP P').hl ((S.setP P').setL (newL 64)).hl w4 w5:=by
   have:=CO.stepL (S:=S.setP P') st'.sep _ st5;rw [e1] at this;exact this
  have f1:=Step.frame [] H (by simpa using s5.sep) (st'.trans st6);simp only [J2C] at f1;exact s5.trans f1
theorem Z0F {w:World} {H:HL} (h:Sep w H) (top:Nat) (h1:6<=top) (h2:top<=20) (limit:Int) (h0:64<=limit) (hl:limit<=((2 ^ (top+10):Nat):Int)) (period:Nat) (hp1:1<=period) (hp2:period<=16) :
  Calls prog 15 #[.int .i64 ((2 ^ (top+10):Nat):Int),.int .i64 limit,.int .i64 period] w (Z4C top limit period H w):=by
 have b2:2 ^ (top+10)<=1073741824:=J0u (J1G (by omega) (by omega)) (by decide:2 ^ 30<=1073741824);have k1:=Z6w h top h1 h2 limit (by omega) hl;have HQ:Hid (∀r w1,Z8L top limit H w r w1->∃pp,r=.returned (.pointer (some ⟨pp,0,none⟩))/\Calls prog 63 #[] w1 fun r w2=>∃t,r=.returned (.pointer (some ⟨t,0,none⟩)) /\
   Calls prog 64 #[.int .i64 period] w2 fun r w3=>∃g,r=.returned (.pointer (some ⟨g,0,none⟩)) /\
    (w3.alloc (.cells #[.pointer (some ⟨pp,0,none⟩),.pointer (some ⟨t,0,none⟩),.pointer (some ⟨g,0,none⟩)] 142)).cell? ⟨w3.heap.size,0,none⟩=some (.pointer (some ⟨pp,0,none⟩)) /\
    (w3.alloc (.cells #[.pointer (some ⟨pp,0,none⟩),.pointer (some ⟨t,0,none⟩),.pointer (some ⟨g,0,none⟩)] 142)).cell? ⟨w3.heap.size,2,none⟩=some (.pointer (some ⟨g,0,none⟩)) /\
    Calls prog 65 #[.pointer (some ⟨pp,0,none⟩),.int .i64 0,.int .i64 1] (w3.alloc (.cells #[.pointer (some ⟨pp,0,none⟩),.pointer (some ⟨t,0,none⟩),.pointer (some ⟨g,0,none⟩)] 142)) fun r w4=>r=.returned (.tuple #[.int .i64 64,.int .i64 0])/\w4.cell? ⟨w3.heap.size,1,none⟩=some (.pointer (some ⟨t,0,none⟩)) /\
     Calls prog 66 #[.pointer (some ⟨t,0,none⟩),.agg #[.int .i64 1,.int .i64 64,.int .i64 0]] w4 fun r w5=>(∃x y:Value,r=.returned (.tuple #[x,y]))/\Z4C top limit period H w (.returned (.pointer (some ⟨w3.heap.size,0,none⟩))) w5):=by
  rintro r w1 ⟨P,rfl,hlen,hf,s1⟩;refine⟨P.p,rfl,(Z6O s1.sep).mono ?_⟩;rintro r w2 ⟨t,rfl,s2⟩;refine⟨t,rfl,(Z6F s2.sep period hp1 hp2).mono ?_⟩;rintro r w3 ⟨g,rfl,s3⟩;exact⟨g,rfl,Z4D hf hlen h1 h0 (by omega) hp1 hp2 s1 s2 s3⟩
 generalize Z4C top limit period H w=Q at *
 clear h;go_enter func15,ntmps15;go_wp2_with fail;refine k1.mono ?_;intro r w1 hx;obtain⟨pp,rfl,ht⟩:=HQ.out _ _ hx;have HT:=Q0a ht;clear hx ht HQ k1;go_wp2_with fail;refine HT.out.mono ?_;rintro r w2 ⟨t,rfl,hg⟩;have HG:=Q0a hg;clear hg HT;go_wp2_with fail;refine HG.out.mono ?_;rintro r w3 ⟨g,rfl,c0,c2,hget⟩;have HGet:=Q0a hget;clear hget HG;go_wp2_with fail;refine HGet.out.mono ?_;rintro r w4 ⟨rfl,c1,hput⟩;have HPut:=Q0a hput;clear hput HGet c0 c2;go_wp2_with fail;refine HPut.out.mono ?_;rintro r w5 ⟨⟨x,y,rfl⟩,hq⟩;have HX:=Q0a hq;clear hq HPut c1;go_wp2_with fail
 first|exact HX.out|(go_ret;exact HX.out)
def Aside (H:HL) (L:List Nat) (a:Option Addr) (w:World):Prop:=∀(j x:Nat),L[j]?=some x->∃g,a=some ⟨g,0,none⟩/\g∉keys H/\g<w.heap.size/\w.cell? ⟨g,j,none⟩=some (.int .u32 x)
theorem Aside.step {H H':HL} {L:List Nat} {a:Option Addr} {w w':World} (h:Aside H L a w) (st:Step H H' w w'):Aside H' L a w':=fun j x hj=>by
 obtain⟨g,h1,h2,h3,h4⟩:=h j x hj;refine⟨g,h1,fun hk=>?_,J0v h3 st.chg.size,(World.cell?_of_block (w:=w) (st.chg.block g h3 h2)).trans h4⟩;rcases st.new g hk with h'|h'
 ·exact h2 h'
 ·omega
theorem NewHs.aside {w w':World} {H:HL} {L:List Nat} {r:Ending} (h:NewHs w L r w') (hs:Sep w H):∃(a:Option Addr) (cap:Nat),r=.returned (.slice a L.length cap)/\Below w.heap.size w w'/\Aside H L a w':=by
 obtain⟨a,cap,e,hb,hi⟩:=h.shape;refine⟨a,cap,e,hb,fun j x hj=>?_⟩;obtain⟨g,h1,h2,h3,h4⟩:=hi.at' j x hj;exact⟨g,h1,fun hk=>by have:=hs.lt hk;omega,h3,h4⟩
structure Able (S:CO) (f:Pl) (e:En Fa) (n:Nat) (lim:Int) (i:Nat) (p:Pl):Prop where
 kind:f.kind=1
 may:n=8∨1<=n/\n<=5
 acc:find S.P.q.E f.own=some e
 cost:((costK n:Nat):Int)<=Q0t e
 page:S.P.d.ps.length<2 ^ S.P.d.top
 place:Fst S.l i p
 lim:n=1->0<=lim/\lim<=Q0t e-64/\S.P.q.E.length<32
theorem MakeR.able {S:CO} {fr:List Nat} {h:Nat} {n:Nat} {lim:Int} {w w':World} {r:Ending} (m:MakeR S fr h (n:Int) lim w r w') {f:Pl} (hf:pget S.l 1 h=some f) {e:En Fa} {i:Nat} {p:Pl} (a:Able S f e n lim i p) :
  ∃b x P' fr',r=two (nm i p) 0/\MadeOk S fr f e n b lim x i p P' fr'/\Step S.hl (S.made f n b x i p P').hl w w':=by
 rcases m with ⟨h0,_⟩|⟨f',hf',hm⟩
 ·rw [hf] at h0;cases h0
 ·rw [hf] at hf';cases hf';rcases hm with ⟨h0,_⟩|⟨_,hc,_⟩|⟨n',e',hn,_,_,_,he,hk⟩
  ·exact absurd a.kind h0
  ·exfalso;have:=a.may;rcases hc with h1|⟨h1,h2⟩
   ·apply h1;omega
   ·have:=a.lim (by omega);omega
  ·have:n'=n:=by omega
   subst this;rw [a.acc] at he;cases he;rcases hk with ⟨h0,_⟩|⟨_,h0,_⟩|⟨_,er,P',hc,_⟩|⟨i',p',b,x,P',fr',h1,h2,h3,_,rfl,hm,st⟩
   ·have:=a.cost;omega
   ·have:=h0.len;have:=a.page;omega
   ·exfalso;obtain⟨p1,p2,p3⟩:=a.place;rcases hc with ⟨_,h1|⟨h1,h2⟩⟩|⟨_,h1,h2⟩
    ·exact h1 p (J2G p1) p2
    ·have:=a.lim h1;omega
    ·have:=a.lim h1;omega
   ·obtain⟨p1,p2,p3⟩:=a.place;have hi:i'=i:=by
     rcases J3s i' i with h|h|h
     ·exact absurd h2 (p3 i' p' h h1)
     ·exact h
     ·exact absurd p2 (h3 i p h p1)
    subst hi;rw [p1] at h1;cases h1;exact⟨b,x,P',fr',rfl,hm,st⟩
end Go.Proofs.YtlakjlmaboioiaaGreatDoor
