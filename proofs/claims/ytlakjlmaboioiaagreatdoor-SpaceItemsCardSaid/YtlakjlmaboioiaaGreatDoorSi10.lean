/- SpaceItems returns true at every input. No condition. Part of its proof. -/
import Derived.Test.YtlakjlmaboioiaaGreatDoorSi01
import Derived.Test.YtlakjlmaboioiaaGreatDoorSi09
import Derived.Test.YtlakjlmaboioiaaGreatDoorSi08
import Derived.Deep.MidRow
import Derived.Deep.LoopGhost
import Derived.Test.YtlakjlmaboioiaaGreatDoorSi07
import Derived.Test.YtlakjlmaboioiaaGreatDoorSi04
import Derived.BigQuiet
import Derived.Deep.QuietTactic
set_option maxHeartbeats 4000000
set_option maxRecDepth 100000
set_option linter.unusedVariables false
namespace Go.Proofs.YtlakjlmaboioiaaGreatDoor
open Go.RowKit Go.Proofs.Tryz
def Q0t (e:En Fa):Int:=e.q.limit-(e.q.charged+e.q.given)
def two (x:Nat) (e:Int):Ending:=.returned (.tuple #[.int .u32 x,.int .i64 e])
structure MadeOk (S:CO) (fr:List Nat) (f:Pl) (e:En Fa) (n a:Nat) (lim:Int) (x:Nat) (i:Nat) (p:Pl) (P':PL) (fr':List Nat):Prop where
 inv:Inv P' (S.l.set i ⟨n,a,f.own,1,p.age,x⟩) fr' S.xc (S.ts.map Prod.fst)
 same:SameP S.P P'
 kept:KeptL S.P.a.mem P'.a.mem S.l
 next:P'.q.next<=S.P.q.next+1
 fac:n≠1->P'.q.E=upd S.P.q.E f.own {e.q with charged:=e.q.charged+((costK n:Nat):Int)}
 fac1:n=1->(x:Int)=S.P.q.next/\P'.q.next=S.P.q.next+1/\∃b,P'.q.E=upd S.P.q.E f.own {e.q with charged:=e.q.charged+64,given:=e.q.given+lim,kids:=e.q.kids+1}++[⟨x,b,⟨lim,0,0,f.own,0⟩⟩]
 zero:n≠1->∀j,a<=j->j<a+costK n->P'.a.mem[j]?=some 0
 few:P'.d.ps.length<=S.P.d.ps.length+1
 high:∀j,6<=j->(P'.usedOf j).Perm (S.P.usedOf j)
 memH:Z8F S.P P'
 room:a+costK n<=S.P.a.mem.length
def CO.made (S:CO) (f:Pl) (n a x i:Nat) (p:Pl) (P':PL):CO:=(S.setP P').setL (S.l.set i ⟨n,a,f.own,1,p.age,x⟩)
def Z9I (S:CO) (fr:List Nat) (f:Pl) (e:En Fa) (n:Nat) (lim:Int) (w:World) (r:Ending) (w':World):Prop:=
 (Q0t e<((costK n:Nat):Int)/\r=two 0 5/\Step S.hl S.hl w w') ∨
 (((costK n:Nat):Int)<=Q0t e/\NoPage S.P/\r=two 0 4/\Step S.hl S.hl w w') ∨
 (((costK n:Nat):Int)<=Q0t e/\∃(er:Int) (P':PL),((er=11/\((∀p∈S.l,p.st≠0)∨n=1/\S.P.q.E.length=32))∨(er=5/\n=1/\Q0t e-64<lim))/\Tried S.P fr S.l P'/\r=two 0 er/\Step S.hl (S.setP P').hl w w') ∨
 (∃(i:Nat) (p:Pl) (a x:Nat) (P':PL) (fr':List Nat),S.l[i]?=some p/\p.st=0/\(∀j q,j<i->S.l[j]?=some q->q.st≠0)/\((costK n:Nat):Int)<=Q0t e/\r=two (nm i p) 0/\MadeOk S fr f e n a lim x i p P' fr'/\Step S.hl (S.made f n a x i p P').hl w w')
def MakeR (S:CO) (fr:List Nat) (h:Nat) (k lim:Int) (w:World) (r:Ending) (w':World):Prop:=
 (pget S.l 1 h=none/\r=two 0 8/\Step S.hl S.hl w w') ∨
 ∃f,pget S.l 1 h=some f/\((f.kind≠1/\r=two 0 10/\Step S.hl S.hl w w') ∨
  (f.kind=1/\(¬(k=8∨1<=k/\k<=5)∨k=1/\lim<0)/\r=two 0 1/\Step S.hl S.hl w w') ∨
  ∃(n:Nat) (e:En Fa),k=(n:Int)/\f.kind=1/\(n=8∨1<=n/\n<=5)/\(n=1->0<=lim)/\find S.P.q.E f.own=some e/\Z9I S fr f e n lim w r w')
def Z8P (S:CO) (h:Nat) (w:World) (r:Ending) (w':World):Prop:=
 (pget S.l 1 h=none/\r=.returned (.int .i64 8)/\Step S.hl S.hl w w') ∨
 (pget S.l 1 h≠none/\h=0/\r=.returned (.int .i64 1)/\Step S.hl S.hl w w') ∨
 (pget S.l 1 h≠none/\h≠0/\kids S.l h≠[]/\r=.returned (.int .i64 12)/\Step S.hl S.hl w w') ∨
 (∃p rv,pget S.l 1 h=some p/\h≠0/\kids S.l h=[]/\ovOk rv (S.ts.length+1)/\r=.returned (.int .i64 0)/\Step S.hl (S.doomed h p rv).hl w w')
theorem CO.Ok.mono {S:CO} {fr:List Nat} {N N' K K':Nat} (ok:S.Ok fr N K) (h1:N<=N') (h2:K<=K'):S.Ok fr N' K':=
 ⟨ok.inv,ok.per,ok.due,ok.ord,ok.ov,by have:=ok.next;omega,J0u ok.now h2,ok.age⟩
theorem MadeOk.ok {S:CO} {fr:List Nat} {N K:Nat} (ok:S.Ok fr N K) {f:Pl} {e:En Fa} {n a x i:Nat} {lim:Int} {p:Pl} {P':PL} {fr':List Nat} (m:MadeOk S fr f e n a lim x i p P' fr') (hi:S.l[i]?=some p):(S.made f n a x i p P').Ok fr' (N+1) K:=
 ok.made m.inv (by have:=m.next;have:=ok.next;omega) (Z3T ok.age (ok.age p (J2G hi)))
def LOk (l:List Pl):Prop:=l.length=256/\∀p∈l,p.st<=3/\p.age<=1048575
theorem LOk.get {l:List Pl} (h:LOk l) (x:Nat):∃p,l[x%256]?=some p/\p.st<=3/\p.age<=1048575:=by
 have hlt:x%256<l.length:=by rw [h.1];omega
 exact⟨l[x%256],J2J hlt,h.2 _ (J3N hlt)⟩
theorem Z4h {l:List Pl} {s h:Nat} {p:Pl} (hl:l[h%256]?=some p):pget l s h=none↔nm (h%256) p≠h∨p.st≠s:=by
 unfold pget;rw [hl];simp only;by_cases hc:nm (h%256) p=h/\p.st=s
 ·rw [if_pos hc];simp [hc.1,hc.2]
 ·rw [if_neg hc];have:nm (h%256) p≠h∨p.st≠s:=by
   by_cases h1:nm (h%256) p=h
   ·exact .inr fun h2=>hc ⟨h1,h2⟩
   ·exact .inl h1
  simp [this]
theorem Z0A {w:World} {h:HT} (s:Sep w h.hl) (ok:LOk h.l) {x st:Nat} (hx:x<4294967296) {p:Pl} (hp:pget h.l st x=some p) :
  Calls prog 170 #[.pointer (some ⟨h.t,0,none⟩),.int .u32 x,.int .i64 st] w fun r w'=>r=.returned (.tuple #[.pointer (some ⟨h.t,x%256*5,none⟩),.int .i64 0])/\w=w':=by
 obtain⟨hi,hn,hs⟩:=pget_some.1 hp;have ha:=(ok.2 p (J2G hi)).2;have k1:=Q3Z s hi (by omega) ha;obtain⟨-,-,-,c3,-,-⟩:=HT.cell s hi;have HO:=Q7U x hx;rw [hn] at k1;rw [hs] at c3;clear s ok hp hi hn hs ha;have h256:x%256<256:=by omega
 have hw:IntKind.i64.wrap ((x%256:Nat):Int)=((x%256:Nat):Int):=Go.IntWalk.i64_in _ (by omega);generalize x%256=i at *
 go_enter func170,ntmps170;go_wp2_with (go_at_call 153;refine k1.mono ?_;rintro e w' ⟨rfl,rfl⟩);go_ret2;exact⟨rfl,rfl⟩
theorem Z4i {a b:Nat} (h:a≠b):(((a:Nat):Int) != ((b:Nat):Int))=true:=by simp;omega
theorem Q4d {a b:Nat} (h:a≠b):(((a:Nat):Int)==((b:Nat):Int))=false:=by simp;omega
theorem Z6A {w:World} {h:HT} (s:Sep w h.hl) (ok:LOk h.l) {x st:Nat} (hx:x<4294967296) (hp:pget h.l st x=none) :
  Calls prog 170 #[.pointer (some ⟨h.t,0,none⟩),.int .u32 x,.int .i64 st] w fun r w'=>r=.returned (.tuple #[.pointer none,.int .i64 8])/\w=w':=by
 obtain⟨p,hi,h1,ha⟩:=ok.get x;have hcase:=(Z4h hi).1 hp;have k1:=Q3Z s hi (by omega) ha;obtain⟨-,-,-,c3,-,-⟩:=HT.cell s hi;have HO:=Q7U x hx;clear s ok hp hi ha;have h256:x%256<256:=by omega
 have hw:IntKind.i64.wrap ((x%256:Nat):Int)=((x%256:Nat):Int):=Go.IntWalk.i64_in _ (by omega);generalize x%256=i at *
 generalize nm i p=n at *
 generalize p.st=t at *
 by_cases hn:n=x
 ·subst hn;have ht:t≠st:=hcase.resolve_left fun h=>h rfl
  have hb:=Z4i ht;have hb2:=Q4d ht;clear hcase ht;go_enter func170,ntmps170;go_wp2_with (go_at_call 153;refine k1.mono ?_;rintro e w' ⟨rfl,rfl⟩);go_ret2;exact⟨rfl,rfl⟩
 ·have hb:=Z4i hn;have hb2:=Q4d hn;clear hcase hn;go_enter func170,ntmps170;go_wp2_with (go_at_call 153;refine k1.mono ?_;rintro e w' ⟨rfl,rfl⟩);go_ret2;exact⟨rfl,rfl⟩
def Pl.obj (p:Pl):Value:=.agg #[.int .i64 (p.kind:Int),.int .i64 (p.at_:Int),.int .i64 (p.fac:Int)]
def zobj:Value:=.agg #[.int .i64 0,.int .i64 0,.int .i64 0]
theorem Q5w {w:World} {h:HT} (s:Sep w h.hl) (ok:LOk h.l) {x:Nat} (hx:x<4294967296) {p:Pl} (hp:pget h.l 1 x=some p) :
  Calls prog 93 #[.pointer (some ⟨h.t,0,none⟩),.int .u32 x] w (Told w (.tuple #[p.obj,.int .i64 0])):=by
 have hi:=(pget_some.1 hp).1;have hA:Calls prog 170 #[.pointer (some ⟨h.t,0,none⟩),.int .u32 x,.int .i64 1] (w.alloc (.cells #[.int .i64 0,.int .i64 0,.int .i64 0] 69)) fun r w'=>r=.returned (.tuple #[.pointer (some ⟨h.t,x%256*5,none⟩),.int .i64 0])/\(w.alloc (.cells #[.int .i64 0,.int .i64 0,.int .i64 0] 69))=w':=Z0A (st:=1) (s.alloc _) ok hx hp
 obtain⟨c0,c1,c2,-,-,-⟩:=HT.cell (s.alloc (.cells #[.int .i64 0,.int .i64 0,.int .i64 0] 69)) hi;have HB:Hid (Below w.heap.size w (w.alloc (.cells #[.int .i64 0,.int .i64 0,.int .i64 0] 69))):=(Below.refl _ _).alloc (J0t _) _;unfold Pl.obj;clear s ok hp hi;generalize x%256*5=i at *
 go_enter func93,ntmps93;go_wp2_with (go_at_call 170;refine hA.mono ?_;rintro e w' ⟨rfl,rfl⟩);refine bodyPost_ret (v:=.tuple #[.agg #[.int .i64 (p.kind:Int),.int .i64 (p.at_:Int),.int .i64 (p.fac:Int)],.int .i64 0]) (by simp [results,results93,go_sem]) rfl ⟨rfl,?_⟩;exact (Below.refl _ _).alloc (J0t _) _
theorem Z4j {w:World} {h:HT} (s:Sep w h.hl) (ok:LOk h.l) {x:Nat} (hx:x<4294967296) (hp:pget h.l 1 x=none) :
  Calls prog 93 #[.pointer (some ⟨h.t,0,none⟩),.int .u32 x] w (Told w (.tuple #[zobj,.int .i64 8])):=by
 have hA:Calls prog 170 #[.pointer (some ⟨h.t,0,none⟩),.int .u32 x,.int .i64 1] (w.alloc (.cells #[.int .i64 0,.int .i64 0,.int .i64 0] 69)) fun r w'=>r=.returned (.tuple #[.pointer none,.int .i64 8])/\(w.alloc (.cells #[.int .i64 0,.int .i64 0,.int .i64 0] 69))=w':=Z6A (st:=1) (s.alloc _) ok hx hp
 unfold zobj;clear s ok hp;go_enter func93,ntmps93;go_wp2_with (go_at_call 170;refine hA.mono ?_;rintro e w' ⟨rfl,rfl⟩);refine bodyPost_ret (v:=.tuple #[.agg #[.int .i64 0,.int .i64 0,.int .i64 0],.int .i64 8]) (by simp [results,results93,go_sem]) rfl ⟨rfl,?_⟩;exact (Below.refl _ _).alloc (J0t _) _
def Z8Q (h:HT) (x:Nat) (p:Pl) (w:World) (r:Ending) (w':World):Prop:=r=.returned (.int .i64 0)/\Step h.hl ({h with l:=h.l.set (x%256) {p with st:=2}}:HT).hl w w'
theorem Z1z {w:World} {h:HT} (s:Sep w h.hl) (ok:LOk h.l) {x:Nat} (hx:x<4294967296) {p:Pl} (hp:pget h.l 1 x=some p) :
  Calls prog 172 #[.pointer (some ⟨h.t,0,none⟩),.int .u32 x] w (Z8Q h x p w):=by
 have hA:Calls prog 170 #[.pointer (some ⟨h.t,0,none⟩),.int .u32 x,.int .i64 1] w fun r w'=>r=.returned (.tuple #[.pointer (some ⟨h.t,x%256*5,none⟩),.int .i64 0])/\w=w':=Z0A (st:=1) s ok hx hp
 have hi:=(pget_some.1 hp).1;obtain⟨-,-,-,c3,-,cf⟩:=HT.cell s hi;have cf3:=cf (x%256*5+3);have HS:Hid (Z8Q h x p w (.returned (.int .i64 0)) (w.setCell ⟨h.t,x%256*5+3,none⟩ (.int .i64 2))):=⟨rfl,HT.set s hi 3 (.int .i64 2) (by omega) (q:={p with st:=2}) rfl⟩
 clear s ok hp hi cf;generalize Z8Q h x p w=Q at *
 generalize x%256*5=i at *
 go_enter func172,ntmps172;go_wp2_with (go_at_call 170;refine hA.mono ?_;rintro e w' ⟨rfl,rfl⟩)
 first|exact HS.out|(go_ret;exact HS.out)
theorem Z9J:(prog.info? 261).map (·.size)=some 5:=by kernel_rfl
theorem Z1A (l:List Pl) (h:l.length=256):(l.flatMap Pl.cells).length=1280:=by rw [Z8H,h]
theorem Z8R:(prog.info? 262).map (·.size)=some 1280:=by kernel_rfl
theorem HT.range {w:World} {h:HT} (s:Sep w h.hl):w.rangeAt h.t 0 (h.l.flatMap Pl.cells):=fun j v hv=>by
 rw [J2W];exact (HT.cells s).cell j v hv
theorem Z1B {l:List Pl} {i:Nat} {p:Pl} (hi:l[i]?=some p):(l.flatMap Pl.cells).toArray.extract (i*5) (i*5+5)=p.cells.toArray:=by
 apply Array.ext'
 rw [Array.toList_extract]
 apply J2a
 intro j;simp only [List.extract_eq_take_drop,J3p];rw [J2v];split
 ·rename_i hj;rw [J2U];have h5:j<p.cells.length:=hj;have:=Q3E hi j p.cells[j] hj (J2J h5);rw [this,J2J h5]
 ·rw [J2h (by show 5<=j;omega)]
theorem Z6B {w:World} {l:List Pl} (hl:l.length=256) {i:Nat} {p:Pl} (hi:l[i]?=some p):(Instr.index 262 (.agg (l.flatMap Pl.cells).toArray) (.int .i64 i)).run prog w=.ok (.agg p.cells.toArray) w:=by
 have hlt:i<256:=by have:=(J0K.1 hi).1;omega
 have e:=Z1B hi;generalize (l.flatMap Pl.cells).toArray=cs at *
 have h1:(0:Int)<=(i:Int)/\(i:Int)<((256:Nat):Int):=by omega
 have h2:(prog.info? 261).map (·.size)=some 5:=Z9J;cases hq:prog.info? 261 with
 | none=>simp [hq] at h2
 | some inf =>
  have hs:inf.size=5:=by simpa [hq] using h2
  have hu:prog.underlying 262=some (.array 256 261):=underlying262;have hagg:(isAgg 261).run prog w=.ok true w:=by
   unfold isAgg;rw [Sem.run_bind,run_underlying underlying261 w];rfl
  simp [Instr.index,asIntOf,Sem.run_bind,run_underlying hu w,h1,part,sizeOf,typeInfo,hq,hs,e];intro hh;omega
theorem Z0B {w:World} {h:HT} (s:Sep w h.hl) (ok:LOk h.l) (st:Nat) (hst:st<=3) :
  Calls prog 171 #[.pointer (some ⟨h.t,0,none⟩),.int .i64 st] w (NewHs w (allL h.l st)):=by
 have HL:Hid (w.rangeAt h.t 0 (h.l.flatMap Pl.cells)):=HT.range s;have HI:Hid (∀(w':World) (i:Nat) (p:Pl),h.l[i]?=some p->(Instr.index 262 (.agg (h.l.flatMap Pl.cells).toArray) (.int .i64 i)).run prog w'=.ok (.agg p.cells.toArray) w'):=fun w' i p hp=>Z6B ok.1 hp
 go_enter func171,ntmps171;go_wp2_with (refine wpList_load_mid rfl 262 _ rfl h.t 0 rfl (h.l.flatMap Pl.cells) _ HL.out underlying262 rfl (by rw [Z1A _ ok.1];exact Z8R) ?_);have HOk:=Q0a ok;have HS:=Q0a s;have hl256:=ok.1;clear s ok HL;generalize hcs:(h.l.flatMap Pl.cells).toArray=cs at *
 obtain⟨i0,hinf,hz0,hz1,hz2⟩:=info_parts Q3f
 go_loopg [5,14] 256 (fun gk ov iv wr=>∃k:Nat,iv=.int .i64 k/\k+gk=256/\OutH w wr ov (Q4u h.l st k))
 case atStart=>exact⟨0,rfl,rfl,OutH.nil w⟩
 case round =>
  obtain⟨k,rfl,hkg,hout⟩:=hrel;have HO:=Q0a hout;have HKG:=Q0a hkg;clear hout;by_cases hlt:k<256
  ·obtain⟨p,hp⟩:∃p,h.l[k]?=some p:=⟨h.l[k]'(by omega),J2J (by omega)⟩
   have hidx:=HI.out wr k p hp;have HP:=Q0a hp;have ha:Hid (p.age<=1048575):=(HOk.out.2 p (J2G hp)).2;clear hp;by_cases hs:p.st=st
   ·have HSt:=Q0a hs;have hb:(((p.st:Nat):Int)==(st:Int))=true:=by simp [hs]
    clear hs;unfold Pl.cells at hidx;have hnm:=Q3Z ((HS.out.grown HO.out.2).sep.alloc (.cells #[.int .i64 (p.kind:Int),.int .i64 (p.at_:Int),.int .i64 (p.fac:Int),.int .i64 (p.st:Int),.int .u32 (p.age:Int)] 261)) HP.out hlt ha.out;have hlen:=Q2z h.l st k;have hsz:=HO.out.2.size;go_wp2_with fail;refine hnm.mono ?_;rintro e w' ⟨rfl,rfl⟩;dsimp only
    iterate 4 go_step
    refine wpList_append_own _ rfl _ _ 66 rfl w.heap.size 27 i0 (.int .u32 0) 1 4 underlying66 hinf hz0 hz1 hz2 rfl (by decide) _ _ _ rfl ((HO.out.1.alloc _).alloc _) ⟨wr.heap.size+1,0,none⟩ 1 1 [.int .u32 ((nm k p:Nat):Int)] rfl rfl (Q6G _ _ _) (by simp [Value.oneCell']) (by unfold maxLen;omega) (by omega) (by simp;omega) ?_;intro v' w1 hown' hgrow _;have HR:Hid (OutH w w1 v' (Q4u h.l st (k+1))):=by
     have e:=Q6m HP.out st;rw [if_pos HSt.out] at e;rw [e];exact HO.out.app2 (M:=[nm k p]) hown' hgrow
    clear hown' hgrow HO hsz hlen;go_wp2_with fail;go_roundg (256-(k+1))
    case measure=>have:=HKG.out;omega
    case rel=>exact⟨k+1,by go_num,by omega,HR.out⟩
   ·have HSt:=Q0a hs;have hb:=Q4d hs;clear hs;unfold Pl.cells at hidx;have HR:Hid (∀o,OutH w (wr.alloc o) u5 (Q4u h.l st (k+1))):=fun o=>by
     have e:=Q6m HP.out st;rw [if_neg HSt.out,J2y] at e;rw [e];exact HO.out.alloc o
    go_wp2_with fail;go_roundg (256-(k+1))
    case measure=>have:=HKG.out;omega
    case rel=>exact⟨k+1,by go_num,by omega,HR.out _⟩
  ·have e:Q4u h.l st k=allL h.l st:=by
    have:k=256:=by omega
    unfold allL;rw [this,hl256]
   rw [e] at HO;have HR:Hid (NewHs w (allL h.l st) (.returned u5) wr):=⟨u5,rfl,HO.out.1,HO.out.2⟩
   go_wp2_with fail;go_ret;exact HR.out
theorem Q7X {w:World} {h:HT} (s:Sep w h.hl) (ok:LOk h.l):Calls prog 94 #[.pointer (some ⟨h.t,0,none⟩)] w (NewHs w (allL h.l 1)):=by
 have hA:Calls prog 171 #[.pointer (some ⟨h.t,0,none⟩),.int .i64 1] w (NewHs w (allL h.l 1)):=Z0B s ok 1 (by omega);clear s ok;go_enter func94,ntmps94;go_wp2_with (go_at_call 171;refine hA.mono ?_;rintro e w' ⟨v,rfl,h1,h2⟩)
 first|exact⟨v,rfl,h1,h2⟩|(go_ret;exact⟨v,rfl,h1,h2⟩)
theorem Q5x {w:World} {h:HT} (s:Sep w h.hl) (ok:LOk h.l):Calls prog 156 #[.pointer (some ⟨h.t,0,none⟩)] w (Told w (.int .i64 ((allL h.l 0).length:Nat))):=by
 have hA:Calls prog 171 #[.pointer (some ⟨h.t,0,none⟩),.int .i64 0] w (NewHs w (allL h.l 0)):=Z0B s ok 0 (by omega);clear s ok;generalize allL h.l 0=L at *
 go_enter func156,ntmps156;go_wp2_with (go_at_call 171;refine hA.mono ?_;intro e w' hx;obtain⟨a,cap,rfl,hb,-⟩:=hx.shape;have HB:=Q0a hb;clear hx hb)
 first|exact⟨rfl,HB.out⟩|(go_ret;exact⟨rfl,HB.out⟩)
theorem empty_iff {l:List Pl}:allL l 0=[]↔∀p∈l,p.st≠0:=by
 constructor
 ·intro h p hp hs;obtain⟨i,hi⟩:=J3g.1 hp;have hlt:=(J0K.1 hi).1;have:nm i p∈allL l 0:=mem_allTo.2 ⟨i,p,hlt,hi,hs,rfl⟩;rw [h] at this;cases this
 ·intro h;cases hc:allL l 0 with
  | nil=>rfl
  | cons x r =>
   exfalso;have:x∈allL l 0:=by rw [hc];simp
   obtain⟨i,p,_,hi,hs,_⟩:=mem_allTo.1 this;exact h p (J2G hi) hs
def Fst (l:List Pl) (i:Nat) (p:Pl):Prop:=l[i]?=some p/\p.st=0/\∀j q,j<i->l[j]?=some q->q.st≠0
theorem Z6C (l:List Pl):(∀p∈l,p.st≠0)∨∃i p,Fst l i p:=by
 induction l with
 | nil=>left;simp
 | cons x r ih =>
  by_cases hx:x.st=0
  ·right;exact⟨0,x,rfl,hx,fun j q hj=>absurd hj (J3R _)⟩
  ·rcases ih with h|⟨i,p,h1,h2,h3⟩
   ·left;intro p hp;rcases J0y.1 hp with rfl|hp
    ·exact hx
    ·exact h p hp
   ·right;refine⟨i+1,p,h1,h2,fun j q hj hq=>?_⟩;cases j with
    | zero=>cases hq;exact hx
    | succ j=>exact h3 j q (by omega) hq
theorem Z4k {w:World} (p:Pl):Calls prog 152 #[.agg p.cells.toArray] w (Told w (.bool (((p.st:Nat):Int)==0))):=by
 have hc:=Cells.new w 261 p.cells;have c3:(w.alloc (.cells p.cells.toArray 261)).cell? ⟨w.heap.size,3,none⟩=some (.int .i64 (p.st:Int)):=hc.cell 3 _ rfl;unfold Pl.cells at *
 clear hc;go_enter func152,ntmps152
 go_wp2
 go_ret;exact⟨rfl,(Below.refl _ _).alloc (J0t _) _⟩
def FstI (l:List Pl) (z:Int):Prop:=(z = -1/\∀p∈l,p.st≠0)∨∃(i:Nat) (p:Pl),z=(i:Int)/\Fst l i p
theorem Z1C {w:World} {h:HT} (s:Sep w h.hl) (ok:LOk h.l):Calls prog 151 #[.slice (some ⟨h.t,0,none⟩) 256 256,.func (.func 152) #[] #[]] w fun r w'=>(∃z,r=.returned (.int .i64 z)/\FstI h.l z)/\Below w.heap.size w w':=by
 have hl256:=ok.1;have HS:=Q0a s;clear s ok;go_enter func151,ntmps151;go_wp2_with fail
 go_loopg [5,8] 256 (fun gk _ iv wr=>∃k:Nat,iv=.int .i64 k/\k+gk=256/\(∀j q,j<k->h.l[j]?=some q->q.st≠0)/\Below w.heap.size w wr)
 case atStart=>exact⟨0,rfl,rfl,fun j q hj=>absurd hj (J3R _),Below.refl _ _⟩
 case round =>
  obtain⟨k,rfl,hkg,hpre,hb⟩:=hrel;have HKG:=Q0a hkg;have HPre:=Q0a hpre;have HB:=Q0a hb;clear hpre;by_cases hlt:k<256
  ·obtain⟨p,hp⟩:∃p,h.l[k]?=some p:=⟨h.l[k]'(by omega),J2J (by omega)⟩
   obtain⟨c0,c1,c2,c3,c4,-⟩:=HT.cell ((HS.out.grown hb).sep) hp;have HP:=Q0a hp;have hput:Calls prog 152 #[.agg #[.int .i64 (p.kind:Int),.int .i64 (p.at_:Int),.int .i64 (p.fac:Int),.int .i64 (p.st:Int),.int .u32 (p.age:Int)]] wr (Told wr (.bool (((p.st:Nat):Int)==0))):=Z4k p;clear hp hb;by_cases hs:p.st=0
   ·have HSt:=Q0a hs;have hbq:(((p.st:Nat):Int)==0)=true:=by simp [hs]
    rw [hbq] at hput;clear hs hbq;go_wp2_with (go_at_call 152;refine hput.mono ?_;rintro e w1 ⟨rfl,hb1⟩;have HB1:=Q0a hb1;clear hb1);have HR:Hid ((∃z,Ending.returned (.int .i64 k)=.returned (.int .i64 z)/\FstI h.l z)/\Below w.heap.size w w1):=⟨⟨_,rfl,.inr ⟨k,p,rfl,HP.out,HSt.out,HPre.out⟩⟩,HB.out.trans (HB1.out.mono HB.out.size)⟩
    first|exact HR.out|(go_ret;exact HR.out)
   ·have HSt:=Q0a hs;have hbq:(((p.st:Nat):Int)==0)=false:=by simp;omega
    rw [hbq] at hput;clear hs hbq;go_wp2_with (go_at_call 152;refine hput.mono ?_;rintro e w1 ⟨rfl,hb1⟩;have HB1:=Q0a hb1;clear hb1);go_roundg (256-(k+1))
    case measure=>have:=HKG.out;omega
    case rel =>
     refine⟨k+1,by go_num,by omega,fun j q hj hq=>?_,HB.out.trans (HB1.out.mono HB.out.size)⟩;by_cases e:j=k
     ·subst e;have:=HP.out;rw [this] at hq;cases hq;exact HSt.out
     ·exact HPre.out j q (by omega) hq
  ·have HR:Hid ((∃z,Ending.returned (.int .i64 (-1))=.returned (.int .i64 z)/\FstI h.l z)/\Below w.heap.size w wr):=⟨⟨_,rfl,.inl ⟨rfl,fun p hp=>by
    obtain⟨i,hi⟩:=J3g.1 hp;have:=(J0K.1 hi).1;exact HPre.out i p (by omega) hi⟩⟩,HB.out⟩
   go_wp2_with fail
   first|exact HR.out|(go_ret;exact HR.out)
def PutT (h:HT) (q:Pl) (i:Nat) (w:World) (r:Ending) (w':World):Prop:=r=.returned (.tuple #[.int .u32 ((nm i q:Nat):Int),.int .i64 0])/\Step h.hl ({h with l:=h.l.set i q}:HT).hl w w'
theorem Z4l {w:World} {h:HT} (s:Sep w h.hl) (ok:LOk h.l) {i:Nat} {p:Pl} (hf:Fst h.l i p) (k a f x:Nat):Calls prog 66 #[.pointer (some ⟨h.t,0,none⟩),.agg #[.int .i64 k,.int .i64 a,.int .i64 f]] w (PutT h ⟨k,a,f,1,p.age,x⟩ i w):=by
 have hi256:i<256:=by have:=(J0K.1 hf.1).1;have:=ok.1;omega
 have hage:=(ok.2 p (J2G hf.1)).2;have hix:Calls prog 151 #[.slice (some ⟨h.t,0,none⟩) 256 256,.func (.func 152) #[] #[]] (w.alloc (.cells #[.int .i64 k,.int .i64 a,.int .i64 f] 69)) fun r w'=>r=.returned (.int .i64 i)/\w'.cell? ⟨w.heap.size,0,none⟩=some (.int .i64 k)/\w'.cell? ⟨w.heap.size,1,none⟩=some (.int .i64 a)/\w'.cell? ⟨w.heap.size,2,none⟩=some (.int .i64 f) /\
   (∃v,w'.cell? ⟨h.t,i*5,none⟩=some v)/\(∃v,w'.cell? ⟨h.t,i*5+1,none⟩=some v)/\(∃v,w'.cell? ⟨h.t,i*5+2,none⟩=some v)/\(∃v,w'.cell? ⟨h.t,i*5+3,none⟩=some v)/\(∀j,w'.frozen? ⟨h.t,j,none⟩=false) /\
   Calls prog 153 #[.pointer (some ⟨h.t,0,none⟩),.int .i64 i] ((((w'.setCell ⟨h.t,i*5,none⟩ (.int .i64 k)).setCell ⟨h.t,i*5+1,none⟩ (.int .i64 a)).setCell ⟨h.t,i*5+2,none⟩ (.int .i64 f)).setCell ⟨h.t,i*5+3,none⟩ (.int .i64 1)).drew
    fun r w2=>r=.returned (.int .u32 ((nm i p:Nat):Int))/\PutT h ⟨k,a,f,1,p.age,x⟩ i w (.returned (.tuple #[.int .u32 ((nm i p:Nat):Int),.int .i64 0])) w2:=by
  refine (Z1C (s.alloc _) ok).mono ?_;rintro r w' ⟨⟨z,rfl,hz⟩,hb⟩;have hbb:Below w.heap.size w w':=((Below.refl _ _).alloc (J0t _) _).trans (hb.mono (by simp));have s1:=s.grown hbb;have hc:=(Cells.new w 69 [.int .i64 k,.int .i64 a,.int .i64 f]).same (hb.block w.heap.size (by simp));obtain⟨c0,c1,c2,c3,c4,cf⟩:=HT.cell s1.sep hf.1;have hz':z=(i:Int):=by
   rcases hz with ⟨_,h0⟩|⟨j,q,rfl,h1,h2,h3⟩
   ·exact absurd hf.2.1 (h0 p (J2G hf.1))
   ·rcases J3s i j with e|e|e
    ·exact absurd hf.2.1 (h3 i p e hf.1)
    ·rw [e]
    ·exact absurd h2 (hf.2.2 j q e h1)
  refine⟨by rw [hz'],hc.cell 0 _ rfl,hc.cell 1 _ rfl,hc.cell 2 _ rfl,⟨_,c0⟩,⟨_,c1⟩,⟨_,c2⟩,⟨_,c3⟩,cf,?_⟩;have g:∀(r:Pl),(h.l.set i r)[i]?=some r:=fun r=>by rw [J4e (J0K.1 hf.1).1]
  have t0:Step h.hl (⟨h.t,h.l.set i ⟨k,p.at_,p.fac,p.st,p.age,x⟩⟩:HT).hl w' _:=HT.set s1.sep hf.1 0 (.int .i64 k) (by omega) (q:=⟨k,p.at_,p.fac,p.st,p.age,x⟩) rfl;have t1:=HT.set (h:=⟨h.t,h.l.set i ⟨k,p.at_,p.fac,p.st,p.age,x⟩⟩) t0.sep (g _) 1 (.int .i64 a) (by omega) (q:=⟨k,a,p.fac,p.st,p.age,x⟩) rfl;simp only [J3j] at t1;have t2:=HT.set (h:=⟨h.t,h.l.set i ⟨k,a,p.fac,p.st,p.age,x⟩⟩) t1.sep (g _) 2 (.int .i64 f) (by omega) (q:=⟨k,a,f,p.st,p.age,x⟩) rfl;simp only [J3j] at t2;have t3:=HT.set (h:=⟨h.t,h.l.set i ⟨k,a,f,p.st,p.age,x⟩⟩) t2.sep (g _) 3 (.int .i64 1) (by omega) (q:=⟨k,a,f,1,p.age,x⟩) rfl
  simp only [J3j] at t3;have tt:=(s1.trans (((t0.trans t1).trans t2).trans t3)).drew;have hn:=Q3Z (h:=⟨h.t,h.l.set i ⟨k,a,f,1,p.age,x⟩⟩) tt.sep (g _) hi256 (by exact hage);refine hn.mono ?_;rintro r w2 ⟨rfl,rfl⟩;exact⟨rfl,rfl,tt⟩
 have hne:h.t≠w.heap.size:=by have:=(HT.cells s).lt;omega
 have hne2:w.heap.size≠h.t:=fun e=>hne e.symm
 have hw:IntKind.i64.wrap (i:Int)=(i:Int):=Go.IntWalk.i64_in _ (by omega);clear s ok hf hage;generalize PutT h ⟨k,a,f,1,p.age,x⟩ i w=Q at *
 generalize nm i p=n at *
 go_enter func66,ntmps66;go_wp2_with (go_at_call 151;refine hix.mono ?_;rintro e w1 ⟨rfl,o0,o1,o2,⟨v0,c0⟩,⟨v1,c1⟩,⟨v2,c2⟩,⟨v3,c3⟩,cf,hname⟩;have f0:=cf (i*5);have f1:=cf (i*5+1);have f2:=cf (i*5+2);have f3:=cf (i*5+3);have HN:=Q0a hname;clear hname cf);go_region;go_wp2_with fail;refine HN.out.mono ?_;rintro r w2 ⟨rfl,hq⟩;go_wp2_with fail
 first|exact hq|(go_ret2;exact hq)
theorem Z4m (x:Nat):∀y∈Q0d x,y<256:=by
 intro y hy;unfold Q0d at hy;simp only [J0y,J0P,or_false] at hy;rcases hy with rfl|rfl|rfl|rfl|rfl|rfl|rfl|rfl <;> exact J3x _ (by omega)
def one (e:Int):Ending:=.returned (.int .i64 e)
def at2 (a:Nat) (e:Int):Ending:=.returned (.tuple #[.int .i64 a,.int .i64 e])
def GetC (S:CO) (fr:List Nat) (own n:Nat) (e:En Fa) (w:World) (r:Ending) (w':World):Prop:=
 (Q0t e<((costK n:Nat):Int)/\r=at2 0 5/\Step S.hl S.hl w w') ∨
 (((costK n:Nat):Int)<=Q0t e/\NoPage S.P/\r=at2 0 4/\Step S.hl S.hl w w') ∨
 ∃a P' fr',((costK n:Nat):Int)<=Q0t e/\GotM S.P fr own n a P' fr'/\r=at2 a 0/\Step S.hl (S.setP P').hl w w'
theorem Z8S {S:CO} {fr:List Nat} {w w':World} {r:Ending} (h:Sep w S.hl) (ok:S.P.Ok fr) {own n:Nat} {e:En Fa} (hf:find S.P.q.E own=some e) (h1:1<=n) (h7:n<=7) (hr:GetP S.P fr own n w r w'):GetC S fr own n e w r w':=by
 have hc:Q0Y (n:Int)=Q0c n:=by unfold Q0Y;rw [if_pos (by omega),J1x]
 have hpos:=costN_pos.2 ⟨h1,h7⟩;have hck:costK n=Q0c n:=Q1B (by omega);rcases hr with ⟨h0,_⟩|⟨_,hn,_⟩|⟨_,⟨e',he',hq⟩,rfl,st⟩|⟨m,e',hm,_,_,he',hq,hr⟩
 ·omega
 ·rw [hf] at hn;cases hn
 ·rw [hf] at he';cases he';exact .inl ⟨by unfold Q0t;rw [hck,<- hc];exact hq,rfl,CO.stepP h S.P rfl st⟩
 ·have:m=n:=by omega
  subst this;rw [hf] at he';cases he';have hq':((costK m:Nat):Int)<=Q0t e:=by unfold Q0t;rw [hck];exact hq
  rcases hr with ⟨a,P',rfl,g,st⟩|⟨hn,rfl,st⟩
  ·exact .inr (.inr ⟨a,P',fr,hq',g.gotM ok,rfl,CO.stepP h P' g.p st⟩)
  ·exact .inr (.inl ⟨hq',hn.page,rfl,CO.stepP h S.P rfl st⟩)
def PutC (S:CO) (fr:List Nat) (own n a:Nat) (w:World) (r:Ending) (w':World):Prop:=
 r=.returned (.tuple #[])/\∃P' fr',Z3N S.P fr own n a P' fr'/\Step S.hl (S.setP P').hl w w'
structure Held (P:PL) (fr:List Nat) (own n a:Nat) (e:En Fa):Prop where
 acc:find P.q.E own=some e
 paid:((costK n:Nat):Int)<=e.q.charged
 at':n≠8->a∈P.usedOf n
 frame:n=8->∃g∈fr,a=1024*g
theorem Z8T {S:CO} {fr:List Nat} {w w':World} {r:Ending} (h:Sep w S.hl) (ok:S.P.Ok fr) {own n a:Nat} (hr:PutR S.P fr own n a w r w'):∃P' fr',Z3N S.P fr own n a P' fr'/\Step S.hl (S.setP P').hl w w':=by
 obtain⟨_,P',g,st⟩:=hr;exact⟨P',fr,g.backM ok,CO.stepP h P' g.p st⟩
theorem Z6D {m:List Nat} {a n:Nat} (hn:8<=n) (hl:a+n<=m.length):put_ (put_ m a (List.replicate n 0)) a (Q0d 0)=put_ m a (List.replicate n 0):=by
 have hl1:(put_ m a (List.replicate n 0)).length=m.length:=Q1U _ _ _ (by rw [J0D];exact hl);have h8:(Q0d 0).length=8:=rfl
 apply J2a
 intro i;rw [Q5q _ _ _ (by rw [hl1,h8];omega)];by_cases h1:i<a
 ·rw [if_pos h1]
 ·rw [if_neg h1];by_cases h2:i<a+(Q0d 0).length
  ·rw [if_pos h2];have:i=a+(i-a):=by omega
   rw [h8] at h2;rw [this,Q6E (by rw [J0D];exact hl) (by rw [J0D];omega),show a+(i-a)-a=i-a by omega,J2t,if_pos (by omega)];have h3:i-a<8:=by omega
   generalize i-a=j at h3
   match j,h3 with
   | 0,_=>rfl
   | 1,_=>rfl
   | 2,_=>rfl
   | 3,_=>rfl
   | 4,_=>rfl
   | 5,_=>rfl
   | 6,_=>rfl
   | 7,_=>rfl
  ·rw [if_neg h2]
def Q2K (S:CO) (own n a:Nat) (lim:Int) (e:En Fa) (w:World) (r:Ending) (w':World):Prop:=
 ((∀p∈S.l,p.st≠0)/\r=one 11/\Step S.hl S.hl w w') ∨
 ((∃i p,Fst S.l i p)/\n≠1/\r=one 0/\Step S.hl S.hl w w') ∨
 ((∃i p,Fst S.l i p)/\n=1/\(∃er,((er=5/\Q0t e<lim)∨(er=11/\S.P.q.E.length=32))/\r=one er)/\Step S.hl (S.setP (S.P.setA (put_ S.P.a.mem a (Q0d 0)))).hl w w') ∨
 ((∃i p,Fst S.l i p)/\n=1/\lim<=Q0t e/\r=one 0/\∃b,Step S.hl (S.setP ((S.P.setQ (Q3y S.P.q own e b lim)).setA (put_ S.P.a.mem a (Q0d S.P.q.next.toNat)))).hl w w')
theorem GotM.acc {P P':PL} {fr fr':List Nat} {own k a:Nat} {e:En Fa} (g:GotM P fr own k a P' fr') (he:find P.q.E own=some e):find P'.q.E own=some {e with q:={e.q with charged:=e.q.charged+((costK k:Nat):Int)}}/\P'.q.E=upd P.q.E own {e.q with charged:=e.q.charged+((costK k:Nat):Int)}/\P'.q.next=P.q.next/\P'.q.E.length=P.q.E.length:=by
 obtain⟨e',q1,_,q3⟩:=g.q;rw [he] at q1;cases q1;rw [q3];refine⟨Q0m he _,rfl,rfl,?_⟩;show (upd _ _ _).length=_;unfold upd;simp
theorem GotM.held {P P':PL} {fr fr':List Nat} {own k a:Nat} {e:En Fa} (g:GotM P fr own k a P' fr') (ok:P.Ok fr) (he:find P.q.E own=some e):Held P' fr' own k a {e with q:={e.q with charged:=e.q.charged+((costK k:Nat):Int)}}:=by
 have h0:=(ok.q.fa _ e he).1;refine⟨(g.acc he).1,by show _<=e.q.charged+_;omega,fun h=>(g.used h).mem_iff.2 (by simp),fun h=>?_⟩;have hf:=g.frs;rw [if_pos h] at hf;obtain⟨x,rfl,hx⟩:=hf;exact⟨x,by rw [hx];simp,rfl⟩
theorem Z9K {S:CO} {fr fr':List Nat} {N K:Nat} (ok:S.Ok fr N K) {h n a i:Nat} {f p:Pl} {e:En Fa} {lim:Int} {P':PL} (hf:pget S.l 1 h=some f) (hfk:f.kind=1) (hn:n=8∨2<=n/\n<=5) (he:find S.P.q.E f.own=some e) (g:GotM S.P fr f.own n a P' fr') (hi:Fst S.l i p) :
  MadeOk S fr f e n a lim 0 i p P' fr':=by
 obtain⟨_,hE,hnx,_⟩:=g.acc he;refine⟨ok.inv.addN g hi.1 hi.2.1 hn hf hfk,g.same,g.keptL ok.inv.mem,by rw [hnx];omega,fun _=>hE,fun h=>by omega,fun _ j h1 h2=>?_,g.few,g.high ok.inv.mem.pool (by omega),g.keptH ok.inv.mem.pool,g.room.1⟩;rw [g.mem];have:j=a+(j-a):=by omega
 rw [this,Q6E (by rw [J0D];exact g.room.1) (by rw [J0D];omega),J2t,if_pos (by omega)]
theorem Z9L {S:CO} {fr fr':List Nat} {N K:Nat} (ok:S.Ok fr N K) (hN:N+1<1048576) {h a i b:Nat} {f p:Pl} {e:En Fa} {lim:Int} {P':PL} (hf:pget S.l 1 h=some f) (hfk:f.kind=1) (he:find S.P.q.E f.own=some e) (h0:0<=lim) (hl:lim<=Q0t e-64) (g:GotM S.P fr f.own 1 a P' fr') (hi:Fst S.l i p) :
  MadeOk S fr f e 1 a lim S.P.q.next.toNat i p ((P'.setQ (Q3y P'.q f.own {e with q:={e.q with charged:=e.q.charged+64}} b lim)).setA (put_ P'.a.mem a (Q0d S.P.q.next.toNat))) fr':=by
 obtain⟨hfe,hE,hnx,_⟩:=g.acc he;have h64:costK 1=64:=rfl;rw [h64] at hfe hE;have hr:=g.room.1;rw [h64] at hr;have hl8:∀x,(Q0d x).length=8:=fun _=>rfl
 have hn0:=ok.inv.mem.pool.q.next0;have hn1:=ok.next;have hxx:((S.P.q.next.toNat:Nat):Int)=S.P.q.next:=by omega
 have hlen:=g.same.len;have okq:(Q3y P'.q f.own {e with q:={e.q with charged:=e.q.charged+64}} b lim).Ok:=Z4g g.ok.q hfe b h0 (by show lim<=e.q.limit-(e.q.charged+64+e.q.given);unfold Q0t at hl;omega) (by rw [hnx];omega);have hlm:(put_ P'.a.mem a (Q0d S.P.q.next.toNat)).length=P'.a.mem.length:=Q1U _ _ _ (by rw [hl8];omega);have hbt:∀y∈put_ P'.a.mem a (Q0d S.P.q.next.toNat),y<256:=by
  intro y hy;unfold put_ at hy;simp only [J1h] at hy;rcases hy with (hy|hy)|hy
  ·exact g.ok.bytes y (J3M hy)
  ·exact Z4m _ y hy
  ·exact g.ok.bytes y (J2V hy)
 have ok2:=PL.ok_setA (PL.ok_setQ g.ok okq) (m:=put_ P'.a.mem a (Q0d S.P.q.next.toNat)) hlm hbt;have hq:(Q3y P'.q f.own {e with q:={e.q with charged:=e.q.charged+64}} b lim).E=upd S.P.q.E f.own {e.q with charged:=e.q.charged+64,given:=e.q.given+lim,kids:=e.q.kids+1}++[⟨(S.P.q.next.toNat:Int),b,⟨lim,0,0,f.own,0⟩⟩]:=by
  unfold Q3y;simp only;rw [hE,upd_upd,hnx,hxx]
 have hkept:KeptL S.P.a.mem (put_ P'.a.mem a (Q0d S.P.q.next.toNat)) S.l:=KeptL.of_apart ok.inv.mem (n:=64) (a:=a) (fun c j h=>by
  have k1:Kept S.P.a.mem P'.a.mem c j:=by
   rw [g.mem];exact Q1p (by rw [J0D,h64];exact hr) (by rw [J0D,h64];exact h)
  exact k1.trans (Q1p (by rw [hl8];omega) (by rw [hl8];omega))) (g.apart ok.inv.mem.pool)
 refine⟨?_,⟨g.same.p,g.same.qt,g.same.db,g.same.aa,g.same.amb,g.same.top,hlm.trans hlen⟩,hkept,?_,fun h=>absurd rfl h,fun _=>⟨hxx,?_,b,hq⟩,fun h=>absurd rfl h,g.few,g.high ok.inv.mem.pool (by omega),fun j c hj hc=>?_,by rw [h64];exact hr⟩
 ·exact ok.inv.addF g hi.1 hi.2.1 hf hfk hxx he hq rfl (fun j=>rfl) ok2
 ·show P'.q.next+1<=_;rw [hnx];omega
 ·show P'.q.next+1=_;rw [hnx]
 ·have:=(g.apart ok.inv.mem.pool).1 j c hc;rw [h64] at this;exact (g.keptH ok.inv.mem.pool j c hj hc).trans (Q1p (by rw [hl8];omega) (by rw [hl8];omega))
theorem Z1D (ts:List (Nat×Nat)):(Q4a ts).length=ts.length*2:=by
 induction ts with
 | nil=>rfl
 | cons x r ih=>unfold Q4a at *;rw [J0Q,J1d,ih];simp;omega
theorem Z1E (a b:List (Nat×Nat)):Q4a (a++b)=Q4a a++Q4a b:=by unfold Q4a;rw [J1b]
theorem Z4n:(prog.info? 298).map (fun i=>(i.zero,i.size,i.bytes))=some (some (.agg #[.int .i64 0,.int .i64 0]),2,16):=by kernel_rfl
def Z8U (g per now:Nat) (rv:OV) (ts:List (Nat×Nat)) (x:Nat) (w:World) (r:Ending) (w':World):Prop:=∃rv',r=.returned (.int .i64 ((ts.length+1:Nat):Int))/\ovOk rv' (ts.length+1)/\Step (qhl g per now rv ts) (qhl g per now rv' (ts++[(x,now+per)])) w w'
theorem Z4o {w:World} {g per now:Nat} {rv:OV} {ts:List (Nat×Nat)} (h:Sep w (qhl g per now rv ts)) (hok:ovOk rv ts.length) (hl:ts.length<=256) (x:Nat) :
  ∃rv' w',(Builtin.append_ #[265,265] 265 #[ovOf rv ts.length,.slice (some ⟨w.heap.size,0,none⟩) 1 1]).run prog (w.drew.alloc (.cells #[.int .i64 x,.int .i64 ((now+per:Nat):Int)] 298))=.ok (ovOf rv' (ts.length+1)) w' /\
   w'.cell? ⟨g,0,none⟩=some (.int .i64 per)/\w'.cell? ⟨g,1,none⟩=some (.int .i64 now)/\w'.cell? ⟨g,2,none⟩=some (ovOf rv ts.length)/\(∀i,w'.frozen? ⟨g,i,none⟩=false) /\
   (w'.setCell ⟨g,2,none⟩ (ovOf rv' (ts.length+1))).cell? ⟨g,2,none⟩=some (ovOf rv' (ts.length+1)) /\
   ovOk rv' (ts.length+1)/\Z8U g per now rv ts x w (.returned (.int .i64 ((ts.length+1:Nat):Int))) (w'.setCell ⟨g,2,none⟩ (ovOf rv' (ts.length+1))):=by
 obtain⟨i0,hi,hz0,hz1,hz2⟩:=info_parts Z4n;have h1:Sep (w.drew.alloc (.cells #[.int .i64 x,.int .i64 ((now+per:Nat):Int)] 298)) (ovH rv 298 2 (Q4a ts)++[(g,isC 267 [.int .i64 per,.int .i64 now,ovOf rv ts.length])]):=by
  refine Sep.perm (h.drew.alloc _) ?_;unfold qhl;exact (J3V _ _).symm
 have hsrc:Src prog 2 265 (.slice (some ⟨w.heap.size,0,none⟩) 1 1) 1 [.int .i64 x,.int .i64 ((now+per:Nat):Int)] (w.drew.alloc (.cells #[.int .i64 x,.int .i64 ((now+per:Nat):Int)] 298)):=by
  refine Src.ofSlice _ underlying265 ⟨w.heap.size,0,none⟩ 1 1 _ rfl ?_ ?_
  ·intro j u hj;have:=(Cells.new w.drew 298 [.int .i64 x,.int .i64 ((now+per:Nat):Int)]).cell j u hj;rw [addp,J2W];exact this
  ·intro u hu;simp only [J0y,J0P,or_false] at hu;rcases hu with rfl|rfl <;> rfl
 obtain⟨rv',w',hr,hok',st⟩:=Z3Q (P:=prog) (B:=[(g,isC 267 [.int .i64 per,.int .i64 now,ovOf rv ts.length])]) h1 hok (Z1D ts) i0 (.agg #[.int .i64 0,.int .i64 0]) 16 underlying265 hi hz0 hz1 hz2 rfl _ hsrc (by omega) (by omega) (by omega);have hc:=st.sep.cells (b:=g) (T:=267) (cs:=[.int .i64 per,.int .i64 now,ovOf rv ts.length]) (by simp);have s2:=Sep.set (A:=ovH rv' 298 2 (Q4a ts++[.int .i64 x,.int .i64 ((now+per:Nat):Int)])) (B:=[]) st.sep 2 (ovOf rv' (ts.length+1));refine⟨rv',w',hr,hc.cell 0 _ rfl,hc.cell 1 _ rfl,hc.cell 2 _ rfl,hc.free,(hc.set 2 _).cell 2 _ rfl,hok',rv',rfl,hok',?_⟩;have st':Step (qhl g per now rv ts) _ w _:=((st.trans s2).from_alloc.from_drew).perm (by unfold qhl;exact J3V _ _) (J3K _)
 refine st'.perm (J3K _) ?_;unfold qhl;rw [Z1E,J1d];exact J3V _ _
theorem Z6E {w:World} {g per now:Nat} {rv:OV} {ts:List (Nat×Nat)} (h:Sep w (qhl g per now rv ts)) (hok:ovOk rv ts.length) (hl:ts.length<=256) (hper:per<=16) (hnow:now<=1048576) {gb x:Nat} (hx:w.cell? ⟨gb,0,none⟩=some (.int .i64 x)) :
  Calls prog 173 #[.pointer (some ⟨g,0,none⟩),.slice (some ⟨gb,0,none⟩) 1 1] w (Z8U g per now rv ts x w):=by
 have hc:Cells w g 267 [.int .i64 per,.int .i64 now,ovOf rv ts.length]:=h.cells (by simp [qhl]);have c0:=hc.cell 0 _ rfl;have c1:=hc.cell 1 _ rfl;have c2:=hc.cell 2 _ rfl;have f2:=hc.free 2;have hlt:=hc.lt;obtain⟨rv',w',hr,d0,d1,d2,df,e2,hok',hq⟩:=Z4o h hok hl x;obtain⟨g',off',cap',rfl⟩:∃g' off' cap',rv'=some (g',off',cap'):=by
  cases rv' with
  | none=>exact absurd hok' (Nat.succ_ne_zero _)
  | some q=>exact⟨q.1,q.2.1,q.2.2,rfl⟩
 rw [show ovOf (some (g',off',cap')) (ts.length+1)=.slice (some ⟨g',off',none⟩) (ts.length+1) cap' from rfl] at hr e2 hq;rw [Int.natCast_add] at hr hq;have HR:=Q0a hr;have HQ:=Q0a hq;have df2:=df 2;have hw:IntKind.i64.wrap ((now:Int)+(per:Int))=(now:Int)+(per:Int):=Go.IntWalk.i64_in _ (by omega);have hw2:wrap64 ((now:Int)+(per:Int))=(now:Int)+(per:Int):=Go.IntWalk.wrap64_in _ (by omega);generalize Z8U g per now rv ts x w=Q at *
 generalize ovOf rv ts.length=v0 at *
 generalize ts.length=n at *
 clear h hok hc hr hq df hok';go_enter func173,ntmps173;go_wp2_with fail
 go_loopg [6,11] 2 (fun gk _ iv wr=>(iv=.int .i64 0/\gk=2/\wr=w)∨(iv=.int .i64 1/\gk=1/\wr=w'.setCell ⟨g,2,none⟩ (.slice (some ⟨g',off',none⟩) (n+1) cap')))
 case atStart=>exact .inl ⟨rfl,rfl,rfl⟩
 case round =>
  rcases hrel with ⟨rfl,rfl,rfl⟩|⟨rfl,rfl,rfl⟩
  ·go_wp2_with fail
   go_region_law (refine Q0y rfl _ _ 265 265 rfl _ _ (by simp [Act.eval]) (by simp [Act.eval]) HR.out ?_)
   all_goals
    go_wp2_with fail;go_roundg 1
    case measure=>omega
    case rel=>exact .inr ⟨by go_num,rfl,rfl⟩
  ·go_wp2_with fail
   first|exact HQ.out|(go_ret;exact HQ.out)
def NewG (per:Nat) (H:HL) (w:World) (r:Ending) (w':World):Prop:=∃g,r=.returned (.pointer (some ⟨g,0,none⟩))/\Step H (qhl g per 0 none []++H) w w'
theorem Z6F {w:World} {H:HL} (h:Sep w H) (per:Nat) (h1:1<=per) (h2:per<=16):Calls prog 64 #[.int .i64 per] w (NewG per H w):=by
 have HR:Hid (NewG per H w (.returned (.pointer (some ⟨w.heap.size,0,none⟩))) (w.alloc (.cells #[.int .i64 per,.int .i64 0,.slice none 0 0] 267))):=⟨_,rfl,h.new 267 [.int .i64 per,.int .i64 0,.slice none 0 0]⟩
 have hd1:decide ((per:Int)<1)=false:=by rw [decide_eq_false_iff_not];omega
 have hd2:decide ((16:Int)<(per:Int))=false:=by rw [decide_eq_false_iff_not];omega
 have hp1:(1:Int)<=(per:Int):=by omega
 have hp2:(per:Int)<=16:=by omega
 clear h;go_enter func64,ntmps64;go_wp2_with fail
 first|exact HR.out|(go_ret;exact HR.out)
theorem Q7Y {w:World} {q:QT} (h:Sep w q.hl) (ok:q.Ok) {id:Int} {e:En Fa} (hf:find q.E id=some e) (limit:Int) (h0:0<=limit) (hq:e.q.limit-(e.q.charged+e.q.given)<limit) :
  Calls prog 157 #[ptr q.t,.int .i64 id,.int .i64 limit] w (Told w (.tuple #[.int .i64 0,.int .i64 5])):=by
 have k1:=Q2n h hf;obtain⟨a1,a2,a3,a4,_⟩:=ok.fa id e hf;have k2:=Q2F (QT.fac h hf) a1 a2 a3 a4 limit;have hd:decide (limit<=e.q.limit-(e.q.charged+e.q.given))=false:=by rw [decide_eq_false_iff_not];omega
 rw [hd] at k2;clear h hf ok hd hq;unfold ptr at *
 go_enter func157,ntmps157;go_wp2_with (first|(go_at_call 130;refine k1.mono ?_;rintro e w' ⟨rfl,rfl⟩)|(go_at_call 224;refine k2.mono ?_;rintro e w1 ⟨rfl,hb⟩;have HB:=Q0a hb;clear hb));go_ret2;exact⟨rfl,HB.out⟩
theorem Z1F {P:Program} {w:World} {m:Nat} {kv:List (Value×Value)} (h:MapIs w m kv) {t k e:TypeId} (ht:P.underlying t=some (.map k e)) (ty:TypeId):(Builtin.len_ #[t] ty #[.map (some m)]).run P w=.ok (.int .i64 ((kv.length:Nat):Int)) w:=by
 obtain⟨es,clock,ho,_,hr⟩:=h;have:kv.length=es.size:=by rw [<- hr];simp
 rw [this];simp [Builtin.len_,run_underlying ht,MapKept.run_getObj_map ho,goInt,Result.andThen]
theorem QT.len {w:World} {q:QT} (h:Sep w q.hl) (ty:TypeId):(Builtin.len_ #[252] ty #[.map (some q.m)]).run prog w=.ok (.int .i64 ((q.E.length:Nat):Int)) w:=by
 have:=Z1F (QT.map h) underlying252 ty
 simpa [kvs] using this
theorem Q9k {w:World} {q:QT} (h:Sep w q.hl) (ok:q.Ok) {id:Int} {e:En Fa} (hf:find q.E id=some e) (limit:Int) (h0:0<=limit) (hq:limit<=e.q.limit-(e.q.charged+e.q.given)) (hl:q.E.length=32) :
  Calls prog 157 #[ptr q.t,.int .i64 id,.int .i64 limit] w (Told w (.tuple #[.int .i64 0,.int .i64 11])):=by
 have k1:=Q2n h hf;obtain⟨a1,a2,a3,a4,_⟩:=ok.fa id e hf;have k2:=Q2F (QT.fac h hf) a1 a2 a3 a4 limit;have hd:decide (limit<=e.q.limit-(e.q.charged+e.q.given))=true:=by rw [decide_eq_true_eq];exact hq
 rw [hd] at k2;have HN:Hid (∀w1,Below w.heap.size w w1->w1.cell? ⟨q.t,0,none⟩=some (.map (some q.m))/\∀ty,(Builtin.len_ #[252] ty #[.map (some q.m)]).run prog w1=.ok (.int .i64 32) w1):=fun w1 hb=>by
  have s1:=(h.grown hb).sep;refine⟨QT.c0 s1,fun ty=>?_⟩;have:=QT.len s1 ty;rw [hl] at this;exact this
 clear h hf ok hd hq hl;unfold ptr at *
 go_enter func157,ntmps157;go_wp2_with (first|(go_at_call 130;refine k1.mono ?_;rintro e w' ⟨rfl,rfl⟩)|(go_at_call 224;refine k2.mono ?_;rintro e w1 ⟨rfl,hb⟩;obtain⟨d0,dl⟩:=HN.out w1 hb;have HB:=Q0a hb;clear hb));go_ret2;exact⟨rfl,HB.out⟩
theorem Z4p {w:World} {q:QT} (h:Sep w q.hl) (ok:q.Ok) {id:Int} {e:En Fa} (hf:find q.E id=some e) (limit:Int) (h0:0<=limit) (hq:limit<=e.q.limit-(e.q.charged+e.q.given)) (hl:q.E.length≠32) (hn:q.next+1<1048576) :
  Calls prog 157 #[ptr q.t,.int .i64 id,.int .i64 limit] w (Q9j w q id e limit):=by
 have k1:=Q2n h hf;obtain⟨a1,a2,a3,a4,a5,a6,_⟩:=ok.fa id e hf;have k2:=Q2F (QT.fac h hf) a1 a2 a3 a4 limit;have hd:decide (limit<=e.q.limit-(e.q.charged+e.q.given))=true:=by rw [decide_eq_true_eq];exact hq
 rw [hd] at k2;have hn0:=ok.next0;have HN:Hid (∀w1,Below w.heap.size w w1->w1.cell? ⟨q.t,0,none⟩=some (.map (some q.m))/\w1.cell? ⟨q.t,1,none⟩=some (.int .i64 q.next)/\w1.frozen? ⟨q.t,1,none⟩=false/\(∀ty,(Builtin.len_ #[252] ty #[.map (some q.m)]).run prog w1=.ok (.int .i64 ((q.E.length:Nat):Int)) w1) /\
   Q0G ((w1.setCell ⟨q.t,1,none⟩ (.int .i64 (q.next+1))).alloc (.cells #[.int .i64 limit,.int .i64 0,.int .i64 0,.int .i64 id,.int .i64 0] 236)) q.m (kvs q.E) /\
   ∀w4,Q0G w4 q.m (put (kvs q.E) q.next (.pointer (some ⟨w1.heap.size,0,none⟩)))->((w1.setCell ⟨q.t,1,none⟩ (.int .i64 (q.next+1))).alloc (.cells #[.int .i64 limit,.int .i64 0,.int .i64 0,.int .i64 id,.int .i64 0] 236)).grownBy w4 (some q.m) ->
    w4.cell? ⟨e.b,2,none⟩=some (.int .i64 e.q.given)/\w4.cell? ⟨e.b,4,none⟩=some (.int .i64 e.q.kids)/\(∀i,w4.frozen? ⟨e.b,i,none⟩=false) /\
    Q9j w q id e limit (.returned (.tuple #[.int .i64 q.next,.int .i64 0])) ((w4.setCell ⟨e.b,2,none⟩ (.int .i64 (e.q.given+limit))).setCell ⟨e.b,4,none⟩ (.int .i64 (e.q.kids+1)))):=fun w1 hb=>by
  have s1:=h.grown hb;have hm:Q0G (w1.setCell ⟨q.t,1,none⟩ (.int .i64 (q.next+1))) q.m (kvs q.E):=(QT.map s1.sep).set _ _;refine⟨QT.c0 s1.sep,QT.c1 s1.sep,(s1.sep.cells (T:=254) (cs:=[.map (some q.m),.int .i64 q.next]) (by simp [QT.hl])).free 1,QT.len s1.sep,hm.alloc _,fun w4 hm4 hg=>?_⟩;obtain⟨c1,c2,c3,st⟩:=QT.carve s1.sep ok hf limit w4 hm4 hg;exact⟨c1,c2,c3,rfl,_,s1.trans st⟩
 have hw:IntKind.i64.wrap (q.next+1)=q.next+1:=Go.IntWalk.i64_in _ (by omega);have hw2:IntKind.i64.wrap (e.q.given+limit)=e.q.given+limit:=Go.IntWalk.i64_in _ (by omega);have hw3:IntKind.i64.wrap (e.q.kids+1)=e.q.kids+1:=Go.IntWalk.i64_in _ (by have:=ok.next1;omega);have hb32:(((q.E.length:Nat):Int)==32)=false:=by simp;omega
 generalize hQ:Q9j w q id e limit=Q at *
 clear h hf ok hd hq hl hn hQ;unfold ptr at *
 generalize ((q.E.length:Nat):Int)=n32 at *
 go_enter func157,ntmps157;go_wp2_with (first|(go_at_call 130;refine k1.mono ?_;rintro e w' ⟨rfl,rfl⟩)|(go_at_call 224;refine k2.mono ?_;rintro e w1 ⟨rfl,hb⟩;obtain⟨d0,d1,df,dl,hm,hfin⟩:=HN.out w1 hb;have HM:=Q0a hm;have HF:=Q0a hfin;clear hb hm hfin HN)|(refine Q1z _ rfl _ _ _ 252 3 229 rfl underlying252 underlying3 q.m (kvs q.E) HM.out q.next (.pointer (some ⟨w1.heap.size,0,none⟩)) rfl rfl rfl ?_;intro w4 hm1 hg1;obtain⟨e2,e4,ef,hq4⟩:=HF.out w4 hm1 hg1;have ef2:=ef 2;have ef4:=ef 4;have HQ4:=Q0a hq4;clear hm1 hg1 ef hq4))
 first|exact HQ4.out|(go_ret2;exact HQ4.out)
theorem Inv.lok {P:PL} {l:List Pl} {fr:List Nat} {xc:Int->Int} {zs:List Nat} (v:Inv P l fr xc zs):LOk l:=⟨v.len,fun p hp=>⟨by have:=(v.st p hp).1;omega,(v.st p hp).2⟩⟩
theorem new3 {w w1:World} {T:TypeId} {a b c:Value} (hb:Below (w.alloc (.cells #[a,b,c] T)).heap.size (w.alloc (.cells #[a,b,c] T)) w1):Below w.heap.size w w1/\w1.cell? ⟨w.heap.size,0,none⟩=some a/\w1.cell? ⟨w.heap.size,1,none⟩=some b/\w1.cell? ⟨w.heap.size,2,none⟩=some c/\(∀i,w1.frozen? ⟨w.heap.size,i,none⟩=false)/\w.heap.size<w1.heap.size:=by
 have hc:=(Cells.new w T [a,b,c]).same (hb.block w.heap.size (by simp));refine⟨((Below.refl _ _).alloc (J0t _) _).trans (hb.mono (by simp)),hc.cell 0 _ rfl,hc.cell 1 _ rfl,hc.cell 2 _ rfl,hc.free,?_⟩;have:=hb.size;simp at this;omega
theorem Q0e {w w1:World} {o:Obj} (hb:Below (w.alloc o).heap.size (w.alloc o) w1):Below w.heap.size w w1:=((Below.refl _ _).alloc (J0t _) _).trans (hb.mono (by simp))
theorem Z0C {w w1:World} (h:Below w.heap.size w w1) (a b c:Value) (o:Obj):Below w.heap.size w ((((w1.setCell ⟨w.heap.size,0,none⟩ a).setCell ⟨w.heap.size,1,none⟩ b).setCell ⟨w.heap.size,2,none⟩ c).alloc o):=
 (((h.setCell (J0t _) _).setCell (J0t _) _).setCell (J0t _) _).alloc (by have:=h.size;simpa [World.setCell] using this) _
theorem Z4q {w:World} {S:CO} (h:Sep w S.hl) {x:Nat} {a b c e kind:Int} (hG:Calls prog 93 #[.pointer (some ⟨S.t,0,none⟩),.int .u32 x] (w.alloc (.cells #[.int .i64 0,.int .i64 0,.int .i64 0] 69)) (Told (w.alloc (.cells #[.int .i64 0,.int .i64 0,.int .i64 0] 69)) (.tuple #[.agg #[.int .i64 a,.int .i64 b,.int .i64 c],.int .i64 e])))
  (hc:e≠0∨kind=0∨a=kind):Calls prog 30 #[.pointer (some ⟨S.c,0,none⟩),.int .u32 x,.int .i64 kind] w (Told w (.tuple #[.agg #[.int .i64 a,.int .i64 b,.int .i64 c],.int .i64 e])):=by
 have c1:=CO.c1 (h.alloc (.cells #[.int .i64 0,.int .i64 0,.int .i64 0] 69));have hcc:e≠0∨e=0/\kind=0∨e=0/\kind≠0/\a=kind:=by omega
 clear h hc;rcases hcc with he|⟨rfl,rfl⟩|⟨rfl,hk,rfl⟩
 ·have hb1:(e==0)=false:=by simpa using he
  go_enter func30,ntmps30;go_wp2_with (go_at_call 93;refine hG.mono ?_;rintro r w1 ⟨rfl,hb⟩;obtain⟨hb,e0,e1,e2,ef,hlt⟩:=new3 hb;have HB:=Q0a hb;have f0:=ef 0;have f1:=ef 1;have f2:=ef 2;clear hb ef);refine bodyPost_ret (v:=.tuple #[.agg #[.int .i64 a,.int .i64 b,.int .i64 c],.int .i64 e]) (by simp [results,results30,go_sem,e0,e1,e2,hlt]) rfl ⟨rfl,Z0C HB.out _ _ _ _⟩
 ·go_enter func30,ntmps30;go_wp2_with (go_at_call 93;refine hG.mono ?_;rintro r w1 ⟨rfl,hb⟩;obtain⟨hb,e0,e1,e2,ef,hlt⟩:=new3 hb;have HB:=Q0a hb;have f0:=ef 0;have f1:=ef 1;have f2:=ef 2;clear hb ef);refine bodyPost_ret (v:=.tuple #[.agg #[.int .i64 a,.int .i64 b,.int .i64 c],.int .i64 0]) (by simp [results,results30,go_sem,e0,e1,e2,hlt]) rfl ⟨rfl,Z0C HB.out _ _ _ _⟩
 ·have hb1:(a==0)=false:=by simpa using hk
  go_enter func30,ntmps30;go_wp2_with (go_at_call 93;refine hG.mono ?_;rintro r w1 ⟨rfl,hb⟩;obtain⟨hb,e0,e1,e2,ef,hlt⟩:=new3 hb;have HB:=Q0a hb;have f0:=ef 0;have f1:=ef 1;have f2:=ef 2;clear hb ef);refine bodyPost_ret (v:=.tuple #[.agg #[.int .i64 a,.int .i64 b,.int .i64 c],.int .i64 0]) (by simp [results,results30,go_sem,e0,e1,e2,hlt]) rfl ⟨rfl,Z0C HB.out _ _ _ _⟩
theorem Z6G {w:World} {S:CO} (h:Sep w S.hl) {x:Nat} {a b c kind:Int} (hG:Calls prog 93 #[.pointer (some ⟨S.t,0,none⟩),.int .u32 x] (w.alloc (.cells #[.int .i64 0,.int .i64 0,.int .i64 0] 69)) (Told (w.alloc (.cells #[.int .i64 0,.int .i64 0,.int .i64 0] 69)) (.tuple #[.agg #[.int .i64 a,.int .i64 b,.int .i64 c],.int .i64 0])))
  (hk:kind≠0) (ha:a≠kind):Calls prog 30 #[.pointer (some ⟨S.c,0,none⟩),.int .u32 x,.int .i64 kind] w (Told w (.tuple #[.agg #[.int .i64 0,.int .i64 0,.int .i64 0],.int .i64 10])):=by
 have c1:=CO.c1 (h.alloc (.cells #[.int .i64 0,.int .i64 0,.int .i64 0] 69));have hb1:(kind==0)=false:=by simpa using hk
 have hb2:(a==kind)=false:=by simpa using ha
 have hb3:(kind != 0)=true:=by simpa using hk
 have hb4:(a != kind)=true:=by simpa using ha
 clear h hk ha;go_enter func30,ntmps30;go_wp2_with (go_at_call 93;refine hG.mono ?_;rintro r w1 ⟨rfl,hb⟩;obtain⟨hb,e0,e1,e2,ef,hlt⟩:=new3 hb;have HB:=Q0a hb;have f0:=ef 0;have f1:=ef 1;have f2:=ef 2;clear hb ef);refine bodyPost_ret (v:=.tuple #[.agg #[.int .i64 0,.int .i64 0,.int .i64 0],.int .i64 10]) (by simp [results,results30,go_sem,e0,e1,e2,hlt]) rfl ⟨rfl,Z0C HB.out _ _ _ _⟩
section
variable {w:World} {S:CO} {fr:List Nat} {N K:Nat}
theorem Q4e (h:Sep w S.hl) (ok:LOk S.l) {x:Nat} (hx:x<4294967296) (kind:Int) (hp:pget S.l 1 x=none):Calls prog 30 #[.pointer (some ⟨S.c,0,none⟩),.int .u32 x,.int .i64 kind] w (Told w (.tuple #[zobj,.int .i64 8])):=
 Z4q h (Z4j (h:=S.ht) (CO.sT (h.alloc _)) ok hx hp) (.inl (by decide))
theorem Q4f (h:Sep w S.hl) (ok:LOk S.l) {x:Nat} (hx:x<4294967296) (kind:Int) {p:Pl} (hp:pget S.l 1 x=some p) (hk:kind=0∨(p.kind:Int)=kind):Calls prog 30 #[.pointer (some ⟨S.c,0,none⟩),.int .u32 x,.int .i64 kind] w (Told w (.tuple #[p.obj,.int .i64 0])):=
 Z4q h (Q5w (h:=S.ht) (CO.sT (h.alloc _)) ok hx hp) (.inr hk)
theorem Q5y (h:Sep w S.hl) (ok:LOk S.l) {x:Nat} (hx:x<4294967296) (kind:Int) {p:Pl} (hp:pget S.l 1 x=some p) (h0:kind≠0) (hk:(p.kind:Int)≠kind):Calls prog 30 #[.pointer (some ⟨S.c,0,none⟩),.int .u32 x,.int .i64 kind] w (Told w (.tuple #[zobj,.int .i64 10])):=
 Z6G h (Q5w (h:=S.ht) (CO.sT (h.alloc _)) ok hx hp) h0 hk
end
end Go.Proofs.YtlakjlmaboioiaaGreatDoor
