/- SpaceCharge returns true at every input. No condition. Part of its proof. -/
import Derived.Test.YtfidemmgofcnmaaGreatDoorSc14
import Derived.Test.YtfidemmgofcnmaaGreatDoorSc13
set_option maxHeartbeats 2000000
set_option linter.unusedVariables false
namespace Go.Proofs.YtfidemmgofcnmaaGreatDoor
open Go.RowKit Go.Proofs.Tryz
theorem CO.Ok.wordf {S:CO} {fr:List Nat} {N K:Nat} (ok:S.Ok fr N K) {p:Pl} (hp:p∈S.l) (hi:p.is=true) (hk:p.kind=1):Q0u S.P.a.mem p.at_=p.own/\p.at_%8=0/\p.at_+8<=S.P.a.mem.length/\p.own<1048576:=by
 have hu:=ok.inv.mem.used hp hi (by omega);rw [hk] at hu;have h1:=Q0n ok.inv.mem.pool hu;have:Q0c 1=64:=rfl;refine⟨ok.inv.mem.word p hp hi hk,Q2o ok.inv.mem.pool hu,by omega,?_⟩;obtain⟨e,he⟩:=ok.inv.tre.acc hp hi hk;have h2:=ok.inv.mem.pool.q.fa _ e he;have h3:=ok.inv.mem.pool.q.next1;omega
theorem Q9e {w:World} {S:CO} (h:Sep w S.hl) (hb:∀b∈S.P.a.mem,b<256) (hm:S.P.a.mem.length<=1073741824) {k a f x:Nat} (ha:a%8=0) (hl:a+8<=S.P.a.mem.length) (hx:Q0u S.P.a.mem a=x) (Ew:x<1048576) :
  Calls prog 203 #[.pointer (some ⟨S.c,0,none⟩),.agg #[.int .i64 k,.int .i64 a,.int .i64 f]] w (Told w (.int .i64 x)):=by
 have s1:=(h.alloc (.cells #[.int .i64 k,.int .i64 a,.int .i64 f] 54)).drew;have k1:=Q1f (CO.sP s1);have k2:=Z4S (PL.sA (CO.sP s1)) hb a ha hl hm;rw [hx] at k2;have c0:=CO.c0 (h.alloc (.cells #[.int .i64 k,.int .i64 a,.int .i64 f] 54));have d0:=CO.c0 s1;have e1:(w.alloc (.cells #[.int .i64 k,.int .i64 a,.int .i64 f] 54)).cell? ⟨w.heap.size,1,none⟩=some (.int .i64 a):=(Cells.new w 54 [.int .i64 k,.int .i64 a,.int .i64 f]).cell 1 _ rfl;have e2:(w.alloc (.cells #[.int .i64 k,.int .i64 a,.int .i64 f] 54)).drew.cell? ⟨w.heap.size,1,none⟩=some (.int .i64 a):=e1;have HB:Hid (Below w.heap.size w (w.alloc (.cells #[.int .i64 k,.int .i64 a,.int .i64 f] 54)).drew):=((Below.refl _ _).alloc (J2y _) _).drew
 have hw:IntKind.i64.wrap (x:Int)=(x:Int):=Go.IntWalk.i64_in _ (by omega);unfold ptr at *
 clear h hb hm ha hl hx s1;go_enter func203,ntmps203;go_wp2_with fail
 go_region_held3 (fun w'=>w'.cell? ⟨S.c,0,none⟩=some (.pointer (some ⟨S.P.p,0,none⟩))/\w'.cell? ⟨w.heap.size,1,none⟩=some (.int .i64 a)) (first|exact⟨c0,e1⟩|exact⟨d0,e2⟩)
  (first|(go_at_call 50;refine k1.mono ?_;rintro e w' ⟨rfl,rfl⟩)|(go_at_call 58;refine k2.mono ?_;rintro e w' ⟨rfl,rfl⟩))
 go_wp2_with fail
 first|exact⟨rfl,HB.out⟩|(go_ret;exact⟨rfl,HB.out⟩)
theorem Q5I {w:World} {S:CO} {x:Nat} {e:Int} (he:e≠0) (hO:Calls prog 49 #[.pointer (some ⟨S.c,0,none⟩),.int .u32 x,.int .i64 1] w (Told w (.tuple #[.agg #[.int .i64 0,.int .i64 0,.int .i64 0],.int .i64 e]))) :
  Calls prog 150 #[.pointer (some ⟨S.c,0,none⟩),.int .u32 x] w (Told w (.tuple #[.int .i64 0,.int .i64 e])):=by
 have Av:(e==0)=false:=by simpa using he
 go_enter func150,ntmps150;go_wp2_with (go_at_call 49;refine hO.mono ?_;rintro r w1 ⟨rfl,hb⟩;have HB:=Q0a hb;clear hb);have Fe:Hid (∀o,Below w.heap.size w (w1.alloc o)):=fun o=>HB.out.alloc HB.out.size o
 go_ret2;exact⟨rfl,Fe.out _⟩
theorem Q6m {w:World} {S:CO} {fr:List Nat} {N K:Nat} (h:Sep w S.hl) (ok:S.Ok fr N K) {x:Nat} (hx:x<4294967296) {p:Pl} (hp:pget S.l 1 x=some p) (hk:p.kind=1) :
  Calls prog 150 #[.pointer (some ⟨S.c,0,none⟩),.int .u32 x] w (Told w (.tuple #[.int .i64 (p.own:Int),.int .i64 0])):=by
 have hO:Calls prog 49 #[.pointer (some ⟨S.c,0,none⟩),.int .u32 x,.int .i64 1] w (Told w (.tuple #[.agg #[.int .i64 (p.kind:Int),.int .i64 (p.at_:Int),.int .i64 (p.fac:Int)],.int .i64 0])):=Q3I h ok.inv.lok hx 1 hp (.inr (by omega));obtain⟨w1_eq,w2,w3,w4⟩:=ok.wordf (Q0A hp) (Pl.is_iff.2 (.inl (pget_some.1 hp).2.2)) hk;have HW:Hid (∀w1,Below w.heap.size w w1->∀o,Calls prog 203 #[.pointer (some ⟨S.c,0,none⟩),.agg #[.int .i64 (p.kind:Int),.int .i64 (p.at_:Int),.int .i64 (p.fac:Int)]] (w1.alloc o) fun r w'=>r=.returned (.int .i64 (p.own:Int))/\Below w.heap.size w w'):=fun w1 hb o =>
  (Q9e (k:=p.kind) (a:=p.at_) (f:=p.fac) ((h.grown hb).sep.alloc o) ok.inv.mem.pool.bytes (Q0p ok.inv.mem.pool) w2 w3 w1_eq w4).mono fun r w' ⟨e,Ak⟩=>⟨e,(hb.alloc hb.size o).trans (Ak.mono (by have:=hb.size;simp;omega))⟩
 clear h ok hp w1_eq w2 w3 w4 hk;generalize p.own=po at *
 generalize p.kind=pk at *
 generalize p.at_=pa at *
 generalize p.fac=pf at *
 go_enter func150,ntmps150;go_wp2_with (first|(go_at_call 49;refine hO.mono ?_;rintro r w1 ⟨rfl,hb⟩;have HB:=Q0a hb;clear hb)|(go_at_call 203;refine (HW.out _ HB.out _).mono ?_;rintro r w2 ⟨rfl,hb⟩;have Fe:=Q0a hb;clear hb));go_ret2;exact⟨rfl,Fe.out⟩
theorem Q6n {w:World} {S:CO} (h:Sep w S.hl) (ok:LOk S.l):Calls prog 28 #[.pointer (some ⟨S.c,0,none⟩)] w (NewHs w (allL S.l 1)):=by
 have c1:=CO.c1 h;have hA:=Q9a (h:=S.ht) (CO.sT h) ok;clear h ok;unfold CO.ht at hA;go_enter func28,ntmps28;go_wp2_with (go_at_call 86;refine hA.mono ?_;rintro e w' ⟨v,rfl,h1,h2⟩)
 first|exact⟨v,rfl,h1,h2⟩|(go_ret;exact⟨v,rfl,h1,h2⟩)
theorem Q9f {w:World} {S:CO} (h:Sep w S.hl) (ok:LOk S.l):Calls prog 29 #[.pointer (some ⟨S.c,0,none⟩)] w (NewHs w (allL S.l 2)):=by
 have c1:=CO.c1 h;have hA:=Q9b (h:=S.ht) (CO.sT h) ok;clear h ok;unfold CO.ht at hA;go_enter func29,ntmps29;go_wp2_with (go_at_call 87;refine hA.mono ?_;rintro e w' ⟨v,rfl,h1,h2⟩)
 first|exact⟨v,rfl,h1,h2⟩|(go_ret;exact⟨v,rfl,h1,h2⟩)
theorem Q1A {w:World} {S:CO} (h:Sep w S.hl):Calls prog 27 #[.pointer (some ⟨S.c,0,none⟩)] w fun r w'=>r=.returned (.pointer (some ⟨S.P.p,0,none⟩))/\w=w':=by
 have c0:=CO.c0 h;clear h;go_enter func27,ntmps27
 go_wp2
 go_ret;exact⟨rfl,rfl⟩
theorem CO.Ok.few {S:CO} {fr:List Nat} {N K:Nat} (ok:S.Ok fr N K):S.ts.length<=256:=by
 have h1:=ok.inv.que.nd;have:((S.ts.map Prod.fst).map (·%256)).Nodup:=by
  unfold List.Nodup;rw [J3e];refine h1.imp_of_mem ?_;intro a b ha hb CI e;obtain⟨p,hp⟩:=(ok.inv.que.has a).1 ha;obtain⟨q,hq⟩:=(ok.inv.que.has b).1 hb;exact CI (Q0R hp hq e).1
 have:=Q4m 256 _ this (by
  intro x hx;obtain⟨y,_,rfl⟩:=J2E.1 hx;omega)
 simpa using this
def OutI (w wr:World) (v:Value) (L:List Int):Prop:=wr.ownsRow w.heap.size 3 1 v L.length (L.map encI)/\Below w.heap.size w wr
theorem OutI.nil (w:World):OutI w w (.slice none 0 0) []:=⟨World.ownsRow_nil _ _ _ _,Below.refl _ _⟩
theorem OutI.below {w wr w1:World} {v:Value} {L:List Int} (h:OutI w wr v L) (hb:Below wr.heap.size wr w1):OutI w w1 v L:=
 ⟨h.1.kept (row:=none) ⟨hb.os,hb.tape,hb.output,hb.size,fun k hk _=>hb.block k hk⟩ (by cases hv:v.ownBlock with|none=>exact .inl rfl|some b=>exact .inr (by simp)),h.2.trans (hb.mono h.2.size)⟩
theorem OutI.app {w wr:World} {v:Value} {L:List Int} (h:OutI w wr v L) (hl:L.length<=16777216) (x:Int) (ty:TypeId):∃v' w',(Builtin.append_ #[38,38] ty #[v,.slice (some ⟨wr.heap.size,0,none⟩) 1 1]).run prog (wr.alloc (.cells #[.int .i64 x] 3))=.ok v' w'/\OutI w w' v' (L++[x]):=by
 obtain⟨i0,hi,BH,Bi,Be⟩:=info_parts Z0x;have h2:=h.below ((Below.refl _ _).alloc (J2y _) (.cells #[.int .i64 x] 3));obtain⟨v',w',hr,q1,q2,_,q4⟩:=run_append_own_at (P:=prog) (wr.alloc (.cells #[.int .i64 x] 3)) w.heap.size 38 ty 3 i0 (.int .i64 0) 1 8 underlying38 hi BH Bi Be rfl (by decide) v L.length (L.map encI) h2.1 ⟨wr.heap.size,0,none⟩ 1 1 [.int .i64 x] rfl (by
  intro j u hj;have:=(Cells.new wr 3 [.int .i64 x]).cell j u hj;have e:(⟨wr.heap.size,0,none⟩:Addr).add j=⟨wr.heap.size,j,none⟩:=by unfold Addr.add;split <;> simp_all
  rw [e];exact this) (fun u hu=>by rw [J4H.1 hu];rfl) (by unfold maxLen;omega) (by omega) h2.2.size
 refine⟨v',w',hr,?_,?_⟩
 ·rw [J3j,J6d];exact q1
 ·exact h2.2.trans ((Below.refl _ _).mono h2.2.size |>.grown q2 h2.2.size (fun b hb=>(h2.1.lt b hb).1))
def Q0w (t:TB) (k:Nat):List Int:=((List.range k).filter fun s=>(t.en s).isSome).map fun (s:Nat)=>(s:Int)
theorem Q5o (t:TB) (k:Nat):Q0w t (k+1)=Q0w t k++if (t.en k).isSome=true then [(k:Int)] else []:=by
 unfold Q0w;rw [J2J,J4x,J6d,J6L];split <;> simp
theorem Q4g (t:TB) (k:Nat):(Q0w t k).length<=k:=by
 unfold Q0w;rw [J4j];exact J2z (J4P _ _) (by simp)
def NewIs (w:World) (L:List Int) (r:Ending) (w':World):Prop:=∃v,r=.returned v/\w'.ownsRow w.heap.size 3 1 v L.length (L.map encI)/\Below w.heap.size w w'
section
variable {w:World} {S:CO} {t:TB} {p:Pl} {g:Nat}
theorem Q7r (h:TT S t p g w):Calls prog 91 #[.pointer (some ⟨g,0,none⟩)] w (NewIs w (Q0w t 256)):=by
 have HG:Hid (∀(wr:World) (s:Nat),Below w.heap.size w wr->s<256->Calls prog 102 #[.pointer (some ⟨g,0,none⟩),.int .i64 s] wr fun r w'=>r=getV (t.en s)/\wr=w'):=fun wr s hb hs=>by
  have:=Q3H (h.grown hb) (s:Int);have ho:t.at' (s:Int)=t.en s:=by unfold TB.at';rw [if_pos ⟨by omega,by omega⟩,J3F]
  rw [ho] at this;exact this
 clear h;go_enter func91,ntmps91;go_wp2_with fail
 go_loopg [3,7] 256 (fun gk ov iv wr=>∃k:Nat,iv=.int .i64 k/\k+gk=256/\OutI w wr ov (Q0w t k))
 case atStart=>exact⟨0,rfl,rfl,by simpa [Q0w] using OutI.nil w⟩
 case round =>
  obtain⟨k,rfl,AH,Au⟩:=hrel;have HO:=Q0a Au;have Cv:=Q0a AH;clear AH;by_cases hk:k<256
  ·have Bo:=HG.out wr k Au.2 hk;have C2:(k:Int)<256:=by omega
   have KB:=Q5o t k;have Rf:=Q0a KB;have Ae:=Q4g t k;clear Au KB;cases he:t.en k with
   | none =>
    rw [he] at Bo;have HE:=Q0a he;unfold getV Q0s Q0W at Bo;clear he;go_wp2_with fail;refine Bo.mono ?_;rintro e w' ⟨rfl,rfl⟩;go_wp2_with fail;go_roundg (256-(k+1))
    case measure=>have:=Cv.out;omega
    case rel=>exact⟨k+1,by go_num,by have:=Cv.out;omega,by
     have h1:=Rf.out;rw [HE.out] at h1;rw [h1]
     simpa using HO.out⟩
   | some e =>
    rw [he] at Bo;have HE:=Q0a he;have Aa:Q0s (some e)≠0:=fun hz=>by cases codeA_zero.1 hz
    have FI:(((Q0s (some e):Nat):Int) != 0)=true:=by simpa using Aa
    have Lj:(((Q0s (some e):Nat):Int)==0)=false:=by simpa using Aa
    unfold getV at Bo;generalize Q0s (some e)=ca at *
    generalize Q0W (some e)=cb at *
    clear he Aa;go_wp2_with fail;refine Bo.mono ?_;rintro e1 w' ⟨rfl,rfl⟩;obtain⟨v',w5,Ba,J2⟩:=HO.out.app (by omega) (k:Int) 38;have U5:=Q0a J2;clear J2;go_wp2_with (at_builtin;refine Lib.wpList_append_run _ rfl _ _ _ _ rfl _ _ rfl rfl _ _ Ba ?_);go_roundg (256-(k+1))
    case measure=>have:=Cv.out;omega
    case rel=>exact⟨k+1,by go_num,by have:=Cv.out;omega,by
     have h1:=Rf.out;rw [HE.out] at h1;rw [h1]
     simpa using U5.out⟩
  ·obtain rfl:k=256:=by have:=Cv.out;omega
   have HR:Hid (NewIs w (Q0w t 256) (.returned u3) wr):=⟨u3,rfl,HO.out.1,HO.out.2⟩
   clear Au HO;go_wp2_with fail
   first|exact HR.out|(go_ret;exact HR.out)
end
theorem J0F {w:World} {S:CO} {fr:List Nat} {N K:Nat} (hs:Sep w S.hl) (ok:S.Ok fr N K) {p:Pl} (hu:p.at_∈S.P.usedOf 2):Calls prog 169 #[.pointer (some ⟨S.P.p,0,none⟩),.int .i64 (p.fac:Int),.int .i64 (p.at_:Int)] w fun r w'=>∃g:Nat,r=.returned (.pointer (some ⟨g,0,none⟩))/\Below w.heap.size w w'/\TblC S p g w'/\w.heap.size<=g:=by
 have hm:=Q0n ok.inv.mem.pool hu;have GF:=Q0p ok.inv.mem.pool;have kh:=Z1B (CO.sP hs) ok.inv.mem.pool 2 (p.at_:Int) (by unfold Z5c;omega);have DD:S.P.has 2 (p.at_:Int)=true:=by
  unfold PL.has PL.usedI;rw [decide_eq_true_eq,if_pos (by omega),J3F];exact⟨by omega,hu⟩
 rw [DD] at kh;have HF:Hid (∀w1,Below w.heap.size w w1->(∃g:Nat,(Ending.returned (.pointer (some ⟨w1.heap.size,0,none⟩)):Ending)=.returned (.pointer (some ⟨g,0,none⟩))/\Below w.heap.size w (w1.alloc (.cells #[ptr S.P.p,.int .i64 (p.fac:Int),.int .i64 (p.at_:Int)] 277))/\TblC S p g (w1.alloc (.cells #[ptr S.P.p,.int .i64 (p.fac:Int),.int .i64 (p.at_:Int)] 277))/\w.heap.size<=g)):=fun w1 hb=>by
  refine⟨w1.heap.size,rfl,hb.alloc hb.size _,fun j v hj=>⟨w1.heap.size,rfl,fun hk=>?_,by simp,?_⟩,hb.size⟩
  ·have:=hs.lt hk;have:=hb.size;omega
  ·exact (Cells.new w1 277 [ptr S.P.p,.int .i64 (p.fac:Int),.int .i64 (p.at_:Int)]).cell j v hj
 unfold ptr at HF;clear hs ok hu hm GF DD;go_enter func169,ntmps169;go_wp2_with fail;refine kh.mono ?_;rintro r w1 ⟨rfl,hb⟩;have HX:=Q0a (HF.out w1 hb);clear hb kh;go_wp2_with fail
 first|exact HX.out|(go_ret;exact HX.out)
structure FO where
 f:Nat
 m:Nat
 o:Nat
 N:List (En Nd)
 next:Int
 kr:Int->RV
def Nd.cells (n:Nd) (rv:RV):List Value:=[.int .i64 n.sp,.int .i64 n.sl,.int .i64 n.par,lvOf rv n.ks.length]
def ndH (kr:Int->RV) (e:En Nd):HL:=(e.b,isC 285 (e.q.cells (kr e.id)))::rowH (kr e.id) 3 1 (e.q.ks.map encI)
def okv (N:List (En Nd)):SKV:=N.map fun e=>((e.q.sp,e.q.sl),.int .i64 e.id)
def isMS (kv:SKV):Obj->Prop:=isM (kv.map fun q=>(Q2s q.1,q.2))
def FO.head (q:FO):Nat×(Obj->Prop):=(q.f,isC 283 [.map (some q.m),.map (some q.o),.int .i64 q.next])
def FO.hl (q:FO):HL:=q.head::(q.m,isMI (kvs q.N))::(q.o,isMS (okv q.N))::q.N.flatMap (ndH q.kr)
structure FO.Ok (q:FO):Prop where
 n:NOk q.N q.next
 lim:q.next<1099511627776
 rv:∀e∈q.N,rvOk (q.kr e.id) e.q.ks.length
 few:q.N.length<=65536
theorem Z0B:WideMaps.KeyLaw prog 173:=deep_law (m:=2) (by omega) (by kernel_rfl) (by kernel_rfl) (by kernel_rfl)
theorem Q3j {p:Int×Int} (h1:0<=p.1) (h2:p.1<9223372036854775808) (h3:0<=p.2) (h4:p.2<9223372036854775808):Q1K prog 173 p:=by
 have hu:=underlying173;have hi:=underlying3;have hk:prog.keyType 173=true:=by kernel_rfl
 have hc:prog.cellsOf 173=2:=by kernel_rfl
 have CR:prog.cellsOf 3=1:=by kernel_rfl
 obtain⟨m,hm⟩:∃m,prog.types.size=m+1:=⟨prog.types.size-1,by
  have:0<prog.types.size:=of_decide_eq_true (by kernel_rfl);omega⟩
 have e1:IntKind.i64.min = -9223372036854775808:=rfl;have e2:IntKind.i64.max=9223372036854775807:=rfl;have wa:(Lit.int .i64 p.1).wf=true:=by
  simp only [Lit.wf,J2U,decide_eq_true_eq,e1,e2];omega
 have wb:(Lit.int .i64 p.2).wf=true:=by
  simp only [Lit.wf,J2U,decide_eq_true_eq,e1,e2];omega
 unfold Q1K Q2s keyOf;simp only [hu];rw [if_pos (by simp [hk,Value.formed,hu,hc]),hm];unfold Program.keyLits;simp only [hu,Value.cells];rw [if_pos (by simp [hc])];exact⟨_,by simp [Program.keyLits,hi,wa,wb,CR];rfl⟩
section
variable {w:World} {q:FO}
theorem FO.c (h:Sep w q.hl):Cells w q.f 283 [.map (some q.m),.map (some q.o),.int .i64 q.next]:=h.cells (by simp [FO.hl,FO.head])
theorem FO.c0 (h:Sep w q.hl):w.cell? ⟨q.f,0,none⟩=some (.map (some q.m)):=(FO.c h).cell 0 _ rfl
theorem FO.c1 (h:Sep w q.hl):w.cell? ⟨q.f,1,none⟩=some (.map (some q.o)):=(FO.c h).cell 1 _ rfl
theorem FO.c2 (h:Sep w q.hl):w.cell? ⟨q.f,2,none⟩=some (.int .i64 q.next):=(FO.c h).cell 2 _ rfl
theorem FO.map (h:Sep w q.hl):Q0z w q.m (kvs q.N):=h.map (by simp [FO.hl,isMI])
theorem FO.omap (h:Sep w q.hl):Q3g w q.o (okv q.N):=h.map (by simp [FO.hl,isMS])
theorem FO.nd (h:Sep w q.hl) {id:Int} {e:En Nd} (hf:find q.N id=some e):Cells w e.b 285 (e.q.cells (q.kr e.id)):=
 h.cells (by
  simp only [FO.hl,J2D];exact .inr (.inr (.inr (J2Z.2 ⟨e,(Q0b hf).1,by simp [ndH]⟩))))
theorem Z1L (ok:q.Ok):(okv q.N).Pairwise (fun a b=>a.1≠b.1):=by
 unfold okv;rw [J3e];exact ok.n.spots
theorem Z1M (ok:q.Ok):∀p∈okv q.N,Q1K prog 173 p.1:=fun p hp=>by
 obtain⟨e,he,rfl⟩:=J2E.1 hp;have:=ok.n.sm e he;exact Q3j (by show 0<=e.q.sp;omega) (by show e.q.sp<_;omega) (by show 0<=e.q.sl;omega) (by show e.q.sl<_;omega)
end
def ownN (N:List (En Nd)) (sp sl:Int):Int:=match N.find? fun e=>decide ((e.q.sp,e.q.sl)=(sp,sl)) with
 | some e=>e.id
 | none=>0
theorem Z5V (N:List (En Nd)) (sp sl:Int):(Q3R (okv N) (sp,sl)).getD (.int .i64 0)=.int .i64 (ownN N sp sl):=by
 unfold Q3R okv ownN;rw [List.find?_map];cases h:List.find? ((fun q=>decide (q.1=(sp,sl))) ∘ fun (e:En Nd)=>((e.q.sp,e.q.sl),Value.int .i64 e.id)) N with
 | none =>
  have:N.find? (fun e=>decide ((e.q.sp,e.q.sl)=(sp,sl)))=none:=h;rw [this];rfl
 | some e =>
  have:N.find? (fun e=>decide ((e.q.sp,e.q.sl)=(sp,sl)))=some e:=h;rw [this];rfl
theorem Q1L {N:List (En Nd)} {next:Int} (ok:NOk N next) {e:En Nd} (he:e∈N):ownN N e.q.sp e.q.sl=e.id:=by
 unfold ownN;cases h:N.find? fun x=>decide ((x.q.sp,x.q.sl)=(e.q.sp,e.q.sl)) with
 | none =>
  have:=J4t.1 h e he;simp at this
 | some x =>
  have hx:=J6M h;have hp:=J6N h;simp only [decide_eq_true_eq] at hp;simp only [Prod.mk.injEq] at hp;rw [Q4d ok hx he hp.1 hp.2]
theorem Q1s {N:List (En Nd)} {next:Int} (ok:NOk N next) {sp sl:Int}:ownN N sp sl=0↔∀e∈N,(e.q.sp,e.q.sl)≠(sp,sl):=by
 unfold ownN;cases h:N.find? fun x=>decide ((x.q.sp,x.q.sl)=(sp,sl)) with
 | none =>
  simp only [true_iff];intro e he hc;have:=J4t.1 h e he;exact this (by simpa using hc)
 | some x =>
  have hx:=J6M h;have hp:=J6N h;simp only [decide_eq_true_eq] at hp;have:=ok.rng x hx
  constructor
  ·intro h0;have Df:x.id=0:=h0;omega
  ·intro AQ;exact absurd hp (AQ x hx)
section
variable {w:World} {q:FO}
theorem Q9g (w:World):(zeroValue 278).run prog w=.ok (.pointer none) w:=by kernel_rfl
theorem FO.look_some (h:Sep w q.hl) {id:Int} {e:En Nd} (hf:find q.N id=some e) :
  (Instr.lookup 280 (.map (some q.m)) (.int .i64 id) false).run prog w=.ok (.pointer (some ⟨e.b,0,none⟩)) w:=by
 rw [Q1h (FO.map h) id false (.pointer none) underlying280 underlying3 (Q9g w)];simp [Q5y,hf,ptr]
theorem FO.look_none (h:Sep w q.hl) {id:Int} (hf:find q.N id=none) :
  (Instr.lookup 280 (.map (some q.m)) (.int .i64 id) false).run prog w=.ok (.pointer none) w:=by
 rw [Q1h (FO.map h) id false (.pointer none) underlying280 underlying3 (Q9g w)];simp [Q5y,hf]
theorem FO.look_own (h:Sep w q.hl) (ok:q.Ok) {sp sl:Int} (hp:Q1K prog 173 (sp,sl)) :
  (Instr.lookup 281 (.map (some q.o)) (.agg #[.int .i64 sp,.int .i64 sl]) false).run prog w=.ok (.int .i64 (ownN q.N sp sl)) w:=by
 have:=Q6f (FO.omap h) Z0B (Z1L ok) (Z1M ok) hp false (.int .i64 0) underlying281 (Z1s w);rw [Z5V] at this;exact this
theorem Q2P (h:Sep w q.hl) {id:Int} {e:En Nd} (hf:find q.N id=some e) :
  Calls prog 180 #[.pointer (some ⟨q.f,0,none⟩),.int .i64 id] w fun r w'=>r=.returned (.pointer (some ⟨e.b,0,none⟩))/\w=w':=by
 have h0:=FO.c0 h;have hl:=FO.look_some h hf;clear h hf;go_enter func180,ntmps180
 go_wp2
 go_ret;exact⟨rfl,rfl⟩
theorem Q4L (h:Sep w q.hl) {id:Int} (hf:find q.N id=none) :
  Calls prog 180 #[.pointer (some ⟨q.f,0,none⟩),.int .i64 id] w fun r w'=>r=.returned (.pointer none)/\w=w':=by
 have h0:=FO.c0 h;have hl:=FO.look_none h hf;clear h hf;go_enter func180,ntmps180
 go_wp2
 go_ret;exact⟨rfl,rfl⟩
theorem Q4M (h:Sep w q.hl) (ok:q.Ok) {sp sl:Int} (hp:Q1K prog 173 (sp,sl)) :
  Calls prog 161 #[.pointer (some ⟨q.f,0,none⟩),.int .i64 sp,.int .i64 sl] w fun r w'=>r=.returned (.int .i64 (ownN q.N sp sl))/\w=w':=by
 have h1:=FO.c1 h;have hl:=FO.look_own h ok hp;clear h hp ok;generalize ownN q.N sp sl=z at *
 go_enter func161,ntmps161
 go_wp2
 go_ret;exact⟨rfl,rfl⟩
theorem FO.nd0 (h:Sep w q.hl) {id:Int} {e:En Nd} (hf:find q.N id=some e):w.cell? ⟨e.b,0,none⟩=some (.int .i64 e.q.sp)/\w.cell? ⟨e.b,1,none⟩=some (.int .i64 e.q.sl)/\w.cell? ⟨e.b,2,none⟩=some (.int .i64 e.q.par)/\w.cell? ⟨e.b,3,none⟩=some (lvOf (q.kr e.id) e.q.ks.length):=by
 have k:=FO.nd h hf;exact⟨k.cell 0 _ rfl,k.cell 1 _ rfl,k.cell 2 _ rfl,k.cell 3 _ rfl⟩
theorem Q9h (h:Sep w q.hl) {id:Int} {e:En Nd} (hf:find q.N id=some e) :
  Calls prog 160 #[.pointer (some ⟨q.f,0,none⟩),.int .i64 id] w fun r w'=>r=.returned (.int .i64 e.q.par)/\w=w':=by
 have k:=Q2P h hf;obtain⟨c0,c1,c2,-⟩:=FO.nd0 h hf;clear h hf;go_enter func160,ntmps160;go_wp2_with (go_at_call 180;refine k.mono ?_;rintro e w' ⟨rfl,rfl⟩);go_ret;exact⟨rfl,rfl⟩
theorem Q9i (h:Sep w q.hl) {id:Int} (hf:find q.N id=none) :
  Calls prog 160 #[.pointer (some ⟨q.f,0,none⟩),.int .i64 id] w fun r w'=>r=.returned (.int .i64 0)/\w=w':=by
 have k:=Q4L h hf;clear h hf;go_enter func160,ntmps160;go_wp2_with (go_at_call 180;refine k.mono ?_;rintro e w' ⟨rfl,rfl⟩);go_ret;exact⟨rfl,rfl⟩
theorem Q6o (h:Sep w q.hl) {id:Int} (hf:find q.N id=none) :
  Calls prog 159 #[.pointer (some ⟨q.f,0,none⟩),.int .i64 id] w fun r w'=>r=.returned (.tuple #[.int .i64 0,.int .i64 0,.bool false])/\w=w':=by
 have k:=Q4L h hf;clear h hf;go_enter func159,ntmps159;go_wp2_with (go_at_call 180;refine k.mono ?_;rintro e w' ⟨rfl,rfl⟩)
 go_ret3
 exact⟨rfl,rfl⟩
theorem Q6p (h:Sep w q.hl) {id:Int} {e:En Nd} (hf:find q.N id=some e) :
  Calls prog 159 #[.pointer (some ⟨q.f,0,none⟩),.int .i64 id] w fun r w'=>r=.returned (.tuple #[.int .i64 e.q.sp,.int .i64 e.q.sl,.bool true])/\Below w.heap.size w w':=by
 have k:=Q2P h hf;obtain⟨c0,c1,c2,-⟩:=FO.nd0 h hf;have hb:∀m,Below w.heap.size w (w.drewN m):=fun m=>by first|exact (Below.refl _ _).drewN|exact Below.drewN (Below.refl _ _)|exact⟨rfl,rfl,rfl,J2y _,fun _ _=>rfl⟩
 clear h hf;go_enter func159,ntmps159;go_wp2_with (go_at_call 180;refine k.mono ?_;rintro e w' ⟨rfl,rfl⟩)
 go_quiet (fail)
 go_wp2
 go_ret3
 exact⟨rfl,by first|exact hb _|exact (Below.refl _ _).drew⟩
end
theorem Z8u (f:En Nd->Nd) (N:List (En Nd)):kvs (mapE f N)=kvs N:=by
 unfold kvs mapE;rw [J4I];rfl
theorem Z8v {f:En Nd->Nd} {N:List (En Nd)} (h:∀c∈N,(f c).sp=c.q.sp/\(f c).sl=c.q.sl):okv (mapE f N)=okv N:=by
 unfold okv mapE;rw [J4I];exact J4J fun c hc=>by simp [(h c hc).1,(h c hc).2]
def FO.setN (q:FO) (id:Int) (n:Nd) (rv:RV):FO:={q with N:=mapE (fun c=>if c.id=id then n else c.q) q.N,kr:=fun j=>if j=id then rv else q.kr j}
theorem FO.split {q:FO} (Ac:q.N.Pairwise (fun a b=>a.id≠b.id)) {id:Int} {e:En Nd} (hf:find q.N id=some e) :
  ∃R:HL,q.hl.Perm (((e.b,isC 285 (e.q.cells (q.kr id)))::rowH (q.kr id) 3 1 (e.q.ks.map encI))++R)/\∀(n:Nd) (rv:RV),n.sp=e.q.sp->n.sl=e.q.sl ->
   (q.setN id n rv).hl.Perm (((e.b,isC 285 (n.cells rv))::rowH rv 3 1 (n.ks.map encI))++R):=by
 obtain⟨he,hid⟩:=Q0b hf;obtain⟨A,B,hN⟩:=J6F he;have hA:∀c∈A,c.id≠id:=fun c hc=>by
  rw [hN,J3n] at Ac;have:=Ac.2.2 c hc e (by simp);rw [hid] at this;exact this
 have hB:∀c∈B,c.id≠id:=fun c hc=>by
  rw [hN,J3n,J3a] at Ac;have:=Ac.2.1.1 c hc;rw [hid] at this;exact this.symm
 have mid:∀(X Y:HL) (h1 h2 h3:Nat×(Obj->Prop)) (Z:HL),(h1::h2::h3::(X++(Z++Y))).Perm (Z++(h1::h2::h3::(X++Y))):=fun X Y h1 h2 h3 Z=>by
  have e1:h1::h2::h3::(X++(Z++Y))=(h1::h2::h3::X)++(Z++Y):=by simp
  have e2:Z++(h1::h2::h3::(X++Y))=Z++((h1::h2::h3::X)++Y):=by simp
  rw [e1,e2,<- J3A,<- J3A];exact J5m Y J5n
 refine⟨q.head::(q.m,isMI (kvs q.N))::(q.o,isMS (okv q.N))::(A.flatMap (ndH q.kr)++B.flatMap (ndH q.kr)),?_,fun n rv h1 h2=>?_⟩
 ·unfold FO.hl;have:q.N.flatMap (ndH q.kr)=A.flatMap (ndH q.kr)++(ndH q.kr e++B.flatMap (ndH q.kr)):=by
   conv=>lhs;rw [hN]
   simp
  rw [this];refine (mid _ _ _ _ _ _).trans ?_;unfold ndH;rw [hid]
 ·have e1:kvs (q.setN id n rv).N=kvs q.N:=Z8u _ _;have e2:okv (q.setN id n rv).N=okv q.N:=Z8v fun c hc=>by
   by_cases h:c.id=id
   ·rw [if_pos h];have:c=e:=by
     have:=Q0l Ac hc;rw [h,hf] at this;cases this;rfl
    subst this;exact⟨h1,h2⟩
   ·rw [if_neg h];exact⟨rfl,rfl⟩
  have e3:∀L:List (En Nd),(∀c∈L,c.id≠id)->(mapE (fun c=>if c.id=id then n else c.q) L).flatMap (ndH (q.setN id n rv).kr)=L.flatMap (ndH q.kr):=fun L hL=>by
   rw [Z0u (fun c hc=>if_neg (hL c hc))];unfold List.flatMap;congr 1;exact J4J fun c hc=>by
    unfold ndH FO.setN;simp only [if_neg (hL c hc)]
  have e4:(q.setN id n rv).N.flatMap (ndH (q.setN id n rv).kr)=A.flatMap (ndH q.kr)++(((e.b,isC 285 (n.cells rv))::rowH rv 3 1 (n.ks.map encI))++B.flatMap (ndH q.kr)):=by
   have:(q.setN id n rv).N=mapE (fun c=>if c.id=id then n else c.q) A++({e with q:=n}::mapE (fun c=>if c.id=id then n else c.q) B):=by
    show mapE _ q.N=_
    conv=>lhs;rw [hN]
    unfold mapE;have P8:(fun c:En Nd=>if c.id=id then n else c.q) e=n:=if_pos hid;rw [J6d,J2B,P8]
   rw [this,J3h,J2W,e3 A hA,e3 B hB];congr 2;unfold ndH FO.setN;simp only [hid,if_true]
  unfold FO.hl;rw [e1,e2,e4];exact mid _ _ _ _ _ _
def FO.app (q:FO) (b:Nat) (n:Nd):FO:={q with N:=q.N++[⟨q.next+1,b,n⟩],next:=q.next+1,kr:=fun j=>if j=q.next+1 then none else q.kr j}
theorem FO.new_none {q:FO} (ok:q.Ok):find q.N (q.next+1)=none:=by
 cases hf:find q.N (q.next+1) with
 | none=>rfl
 | some e =>
  obtain⟨e1,e2⟩:=Q0b hf;have:=ok.n.rng e e1;omega
theorem FO.appSteps {w:World} {q:FO} (h:Sep w q.hl) (ok:q.Ok) {sp sl par:Int} (hp:Q1K prog 173 (sp,sl)) (Aq:ownN q.N sp sl=0) (W1 W2:World) (hW1:W1=(w.setCell ⟨q.f,2,none⟩ (.int .i64 (q.next+1))).drew) (hW2:W2=W1.alloc (.cells #[.int .i64 sp,.int .i64 sl,.int .i64 par,.slice none 0 0] 285)) :
  ∃w3 w4,(Instr.mapUpdate 280 (.map (some q.m)) (.int .i64 (q.next+1)) (.pointer (some ⟨w.heap.size,0,none⟩))).run prog W2=.ok () w3 /\
   (Instr.mapUpdate 281 (.map (some q.o)) (.agg #[.int .i64 sp,.int .i64 sl]) (.int .i64 (q.next+1))).run prog w3.drew=.ok () w4 /\
   Step q.hl (q.app w.heap.size ⟨sp,sl,par,[]⟩).hl w w4 /\
   w3.cell? ⟨q.f,0,none⟩=some (.map (some q.m))/\w3.cell? ⟨q.f,1,none⟩=some (.map (some q.o))/\w3.cell? ⟨q.f,2,none⟩=some (.int .i64 (q.next+1)) /\
   W1.cell? ⟨q.f,0,none⟩=some (.map (some q.m))/\W1.cell? ⟨q.f,2,none⟩=some (.int .i64 (q.next+1)) /\
   W2.cell? ⟨q.f,0,none⟩=some (.map (some q.m))/\W2.cell? ⟨q.f,2,none⟩=some (.int .i64 (q.next+1)) /\
   (∀b i v,b∉keys q.hl->b<w.heap.size->w.cell? ⟨b,i,none⟩=some v->w3.cell? ⟨b,i,none⟩=some v/\w4.cell? ⟨b,i,none⟩=some v):=by
 have s1:Step q.hl ((q.f,isC 283 [.map (some q.m),.map (some q.o),.int .i64 (q.next+1)])::(q.m,isMI (kvs q.N))::(q.o,isMS (okv q.N))::q.N.flatMap (ndH q.kr)) w (w.setCell ⟨q.f,2,none⟩ (.int .i64 (q.next+1))):=Sep.set (A:=[]) (B:=(q.m,isMI (kvs q.N))::(q.o,isMS (okv q.N))::q.N.flatMap (ndH q.kr)) h 2 (.int .i64 (q.next+1));have s1d:=s1.drew;rw [<- hW1] at s1d;have Bj:W1.heap.size=w.heap.size:=by rw [hW1];simp [World.setCell,World.drew]
 have s2:=s1d.sep.new 285 [.int .i64 sp,.int .i64 sl,.int .i64 par,.slice none 0 0];rw [Bj] at s2;have s2':Step _ _ W1 W2:=hW2 ▸ s2;have m2:Q0z W2 q.m (kvs q.N):=s2'.sep.map (by simp [isMI]);obtain⟨w3,r3,m3,g3⟩:=Q1w m2 (q.next+1) (.pointer (some ⟨w.heap.size,0,none⟩)) underlying280 underlying3;obtain⟨es,Af,ho,hr⟩:=m3;have s3:=Sep.turn (A:=[(w.heap.size,isC 285 [.int .i64 sp,.int .i64 sl,.int .i64 par,.slice none 0 0]),(q.f,isC 283 [.map (some q.m),.map (some q.o),.int .i64 (q.next+1)])]) (B:=(q.o,isMS (okv q.N))::q.N.flatMap (ndH q.kr)) (q':=isMI (put (kvs q.N) (q.next+1) (ptr w.heap.size))) s2'.sep g3 ⟨_,ho,es,Af,rfl,hr⟩
 have s3d:=s3.drew;have m3':Q3g w3.drew q.o (okv q.N):=s3d.sep.map (by simp [isMS]);have Ef:Q3R (okv q.N) (sp,sl)=none:=by
  cases hl:Q3R (okv q.N) (sp,sl) with
  | none=>rfl
  | some v =>
   exfalso;unfold Q3R okv at hl;obtain⟨a,ha,_⟩:=J6x.1 hl;have h1:=J6M ha;have h2:=J6N ha;obtain⟨c,hc,rfl⟩:=J2E.1 h1;exact (Q1s ok.n).1 Aq c hc (by simpa using h2)
 obtain⟨w4,r4,m4,g4⟩:=Q4B m3' Z0B (Z1L ok) (Z1M ok) hp (.int .i64 (q.next+1)) Ef underlying281;obtain⟨es4,ER,NP,KP⟩:=m4;have s4:=Sep.turn (A:=[(w.heap.size,isC 285 [.int .i64 sp,.int .i64 sl,.int .i64 par,.slice none 0 0]),(q.f,isC 283 [.map (some q.m),.map (some q.o),.int .i64 (q.next+1)]),(q.m,isMI (put (kvs q.N) (q.next+1) (ptr w.heap.size)))]) (B:=q.N.flatMap (ndH q.kr)) (q':=isMS (okv q.N++[((sp,sl),.int .i64 (q.next+1))])) s3d.sep g4 ⟨_,NP,es4,ER,rfl,KP⟩;have t4:=((s1d.trans s2').trans s3d).trans s4;have t3:=(s1d.trans s2').trans s3;refine⟨w3,w4,r3,r4,?_,?_,?_,?_,?_,?_,?_,?_,fun b i v hb Ab hc=>?_⟩
 ·refine t4.perm (J5T _) ?_;have e1:kvs (q.N++[⟨q.next+1,w.heap.size,⟨sp,sl,par,[]⟩⟩])=put (kvs q.N) (q.next+1) (ptr w.heap.size):=(Z4t q.N (q.next+1) w.heap.size _ (FO.new_none ok)).symm;have e2:okv (q.N++[⟨q.next+1,w.heap.size,⟨sp,sl,par,[]⟩⟩])=okv q.N++[((sp,sl),.int .i64 (q.next+1))]:=by
   unfold okv;rw [J6d];rfl
  have e3:(q.N++[(⟨q.next+1,w.heap.size,⟨sp,sl,par,[]⟩⟩:En Nd)]).flatMap (ndH (q.app w.heap.size ⟨sp,sl,par,[]⟩).kr)=q.N.flatMap (ndH q.kr)++[(w.heap.size,isC 285 [.int .i64 sp,.int .i64 sl,.int .i64 par,.slice none 0 0])]:=by
   have a1:q.N.flatMap (ndH (q.app w.heap.size ⟨sp,sl,par,[]⟩).kr)=q.N.flatMap (ndH q.kr):=by
    rw [J6G,J6G];refine congrArg List.flatten (J4J fun c hc=>?_);have:=ok.n.rng c hc;have hk:(q.app w.heap.size ⟨sp,sl,par,[]⟩).kr c.id=q.kr c.id:=if_neg (by omega);unfold ndH;rw [hk]
   have a2:[(⟨q.next+1,w.heap.size,⟨sp,sl,par,[]⟩⟩:En Nd)].flatMap (ndH (q.app w.heap.size ⟨sp,sl,par,[]⟩).kr)=[(w.heap.size,isC 285 [.int .i64 sp,.int .i64 sl,.int .i64 par,.slice none 0 0])]:=by
    have hk:(q.app w.heap.size ⟨sp,sl,par,[]⟩).kr (q.next+1)=none:=if_pos rfl;rw [J2W,J6C,J4G];unfold ndH;rw [hk];rfl
   rw [J3h,a1,a2]
  unfold FO.hl FO.head;show List.Perm _ ((q.f,_)::(q.m,isMI (kvs (q.N++[_])))::(q.o,isMS (okv (q.N++[_])))::(q.N++[_]).flatMap _);rw [e1,e2,e3];exact (J6g _ ((q.f,isC 283 [.map (some q.m),.map (some q.o),.int .i64 (q.next+1)])::(q.m,isMI (put (kvs q.N) (q.next+1) (ptr w.heap.size)))::(q.o,isMS (okv q.N++[((sp,sl),.int .i64 (q.next+1))]))::q.N.flatMap (ndH q.kr))).symm
 ·exact (s3.sep.cells (b:=q.f) (T:=283) (cs:=[.map (some q.m),.map (some q.o),.int .i64 (q.next+1)]) (by simp)).cell 0 _ rfl
 ·exact (s3.sep.cells (b:=q.f) (T:=283) (cs:=[.map (some q.m),.map (some q.o),.int .i64 (q.next+1)]) (by simp)).cell 1 _ rfl
 ·exact (s3.sep.cells (b:=q.f) (T:=283) (cs:=[.map (some q.m),.map (some q.o),.int .i64 (q.next+1)]) (by simp)).cell 2 _ rfl
 ·exact (s1d.sep.cells (b:=q.f) (T:=283) (cs:=[.map (some q.m),.map (some q.o),.int .i64 (q.next+1)]) (by simp)).cell 0 _ rfl
 ·exact (s1d.sep.cells (b:=q.f) (T:=283) (cs:=[.map (some q.m),.map (some q.o),.int .i64 (q.next+1)]) (by simp)).cell 2 _ rfl
 ·exact (s2'.sep.cells (b:=q.f) (T:=283) (cs:=[.map (some q.m),.map (some q.o),.int .i64 (q.next+1)]) (by simp)).cell 0 _ rfl
 ·exact (s2'.sep.cells (b:=q.f) (T:=283) (cs:=[.map (some q.m),.map (some q.o),.int .i64 (q.next+1)]) (by simp)).cell 2 _ rfl
 ·exact⟨(World.cell?_of_block (t3.chg.block b Ab hb)).trans hc,(World.cell?_of_block (t4.chg.block b Ab hb)).trans hc⟩
theorem Z8w {w:World} {H:HL} {rv:RV} {l:List Int} (h:Sep w (rowH rv 3 1 (l.map encI)++H)) (Bh:rvOk rv l.length) (hl:l.length<=65536) (x:Int) (ty:TypeId) :
  ∃rv' w',(Builtin.append_ #[38,38] ty #[lvOf rv l.length,.slice (some ⟨w.heap.size,0,none⟩) 1 1]).run prog (w.alloc (.cells #[.int .i64 x] 3))=.ok (lvOf rv' (l.length+1)) w'/\rvOk rv' (l.length+1)/\Step (rowH rv 3 1 (l.map encI)++H) (rowH rv' 3 1 ((l++[x]).map encI)++H) w w':=by
 obtain⟨i0,hi,BH,Bi,Be⟩:=info_parts Z0x;have ha:=h.alloc (.cells #[.int .i64 x] 3);have Ah:=Q7I ha.left Bh (by rw [J4j,J3G]);obtain⟨v',w',hr,q1,q2,_,q4⟩:=run_append_own_at (P:=prog) (w.alloc (.cells #[.int .i64 x] 3)) 0 38 ty 3 i0 (.int .i64 0) 1 8 underlying38 hi BH Bi Be rfl (by decide) (lvOf rv l.length) l.length (l.map encI) Ah ⟨w.heap.size,0,none⟩ 1 1 [.int .i64 x] rfl (by
  intro j u hj;have:=(Cells.new w 3 [.int .i64 x]).cell j u hj;have e:(⟨w.heap.size,0,none⟩:Addr).add j=⟨w.heap.size,j,none⟩:=by unfold Addr.add;split <;> simp_all
  rw [e];exact this) (fun u hu=>by rw [J4H.1 hu];rfl) (by unfold maxLen;omega) (by omega) (J4C _)
 obtain⟨rv',rfl,e2,e3⟩:=Q2k (A:=[]) (B:=H) (by simpa using ha) q1 q2 q4;refine⟨rv',w',hr,e2,?_⟩;rw [J6d];have e4:Step (rowH rv 3 1 (l.map encI)++H) (rowH rv' 3 1 (l.map encI++[encI x])++H) (w.alloc (.cells #[.int .i64 x] 3)) w':=by simpa using e3
 exact e4.from_alloc
theorem FO.pushK {w:World} {q:FO} (h:Sep w q.hl) (Ac:q.N.Pairwise (fun a b=>a.id≠b.id)) {id:Int} {e:En Nd} (hf:find q.N id=some e) (AO:rvOk (q.kr id) e.q.ks.length) (hl:e.q.ks.length<=65536) (x:Int) (ty:TypeId) :
  ∃rv' w',(Builtin.append_ #[38,38] ty #[lvOf (q.kr id) e.q.ks.length,.slice (some ⟨w.heap.size,0,none⟩) 1 1]).run prog (w.alloc (.cells #[.int .i64 x] 3))=.ok (lvOf rv' (e.q.ks.length+1)) w'/\rvOk rv' (e.q.ks.length+1) /\
   w'.cell? ⟨e.b,3,none⟩=some (lvOf (q.kr id) e.q.ks.length)/\(∀i,w'.frozen? ⟨e.b,i,none⟩=false)/\Step q.hl (q.setN id {e.q with ks:=e.q.ks++[x]} rv').hl w (w'.setCell ⟨e.b,3,none⟩ (lvOf rv' (e.q.ks.length+1))):=by
 obtain⟨R,p1,p2⟩:=FO.split Ac hf;have pm:∀(Z:HL) (a:Nat×(Obj->Prop)),((a::Z)++R).Perm (Z++(a::R)):=fun Z a=>J6e.symm
 have h':Sep w (rowH (q.kr id) 3 1 (e.q.ks.map encI)++((e.b,isC 285 (e.q.cells (q.kr id)))::R)):=h.perm (p1.trans (pm _ _));obtain⟨rv',w',r1,r2,st⟩:=Z8w h' AO hl x ty;have hc:=st.sep.cells (b:=e.b) (T:=285) (cs:=e.q.cells (q.kr id)) (by simp);have s2:=Sep.set (A:=rowH rv' 3 1 ((e.q.ks++[x]).map encI)) (B:=R) st.sep 3 (lvOf rv' (e.q.ks.length+1));refine⟨rv',w',r1,r2,hc.cell 3 _ rfl,hc.free,(st.trans s2).perm ((p1.trans (pm _ _)).symm) ?_⟩;have AJ:(e.q.cells (q.kr id)).set 3 (lvOf rv' (e.q.ks.length+1))=Nd.cells {e.q with ks:=e.q.ks++[x]} rv':=by
  unfold Nd.cells;simp
 rw [AJ];exact ((p2 {e.q with ks:=e.q.ks++[x]} rv' rfl rfl).trans (pm _ _)).symm
theorem NOk.kids_few {N:List (En Nd)} {next:Int} (ok:NOk N next) {e:En Nd} (he:e∈N):e.q.ks.length<=N.length:=by
 have:=J6O (ok.nd e he) (l₂:=N.map En.id) (fun k hk=>by
  obtain⟨c,hc,_⟩:=ok.kids e he k hk;obtain⟨c1,c2⟩:=Q0b hc;exact J2E.2 ⟨c,c1,c2⟩)
 rwa [J4j] at this
theorem Z5W {w:World} {q:FO} (h:Sep w q.hl) (ok:q.Ok) {sp sl:Int} (hp:Q1K prog 173 (sp,sl)) (Aq:ownN q.N sp sl=0) :
  Calls prog 105 #[.pointer (some ⟨q.f,0,none⟩),.int .i64 0,.int .i64 sp,.int .i64 sl] w fun r w'=>r=.returned (.tuple #[.int .i64 (q.next+1),.int .i64 0])/\Step q.hl (q.app (w.heap.size+1) ⟨sp,sl,0,[]⟩).hl w w':=by
 have ka:=Q4L h ok.n.zero;have h0:=(h.alloc (.cells #[.int .i64 sp,.int .i64 sl] 173)).drew;have hl:=FO.look_own h0 ok hp;rw [Aq] at hl;have c0:=FO.c0 h;have c1:=FO.c1 h;have c2:=FO.c2 h;have d0:=FO.c0 h0;have d1:=FO.c1 h0;have d2:=FO.c2 h0;have hb:=Cells.new w 173 [.int .i64 sp,.int .i64 sl];obtain⟨w3,w4,r3,r4,st,f0,f1,f2,g0,g2,n0,n2,keep⟩:=FO.appSteps (par:=0) h0 ok hp Aq _ _ rfl rfl;have Bj:(w.alloc (.cells #[.int .i64 sp,.int .i64 sl] 173)).drew.heap.size=w.heap.size+1:=by simp [World.drew]
 have EY:w.heap.size∉keys q.hl:=fun hk=>by have:=h.lt hk;omega
 have b0:(w.alloc (.cells #[.int .i64 sp,.int .i64 sl] 173)).drew.cell? ⟨w.heap.size,0,none⟩=some (.int .i64 sp):=hb.cell 0 _ rfl;have b1:(w.alloc (.cells #[.int .i64 sp,.int .i64 sl] 173)).drew.cell? ⟨w.heap.size,1,none⟩=some (.int .i64 sl):=hb.cell 1 _ rfl;have e0:=keep w.heap.size 0 _ EY (by omega) b0;have e1:=keep w.heap.size 1 _ EY (by omega) b1;rw [Bj] at r3 st;have HS:Hid (Step q.hl (q.app (w.heap.size+1) ⟨sp,sl,0,[]⟩).hl w w4):=st.from_drew.from_alloc;have Aw:∀i,(w.alloc (.cells #[.int .i64 sp,.int .i64 sl] 173)).drew.frozen? ⟨q.f,i,none⟩=false:=(FO.c h0).free;have Bq:q.next+1<1099511627777:=by have:=ok.lim;omega
 have Ma:=ok.n.next0;have f2':=FO.c2 st.sep;have f2'':w4.cell? ⟨q.f,2,none⟩=some (.int .i64 (q.next+1)):=f2';obtain⟨e00,_⟩:=e0;obtain⟨e10,_⟩:=e1;have x0:(w.alloc (.cells #[.int .i64 sp,.int .i64 sl] 173)).cell? ⟨q.f,0,none⟩=some (.map (some q.m)):=d0;have x1:(w.alloc (.cells #[.int .i64 sp,.int .i64 sl] 173)).cell? ⟨q.f,1,none⟩=some (.map (some q.o)):=d1;have x2:(w.alloc (.cells #[.int .i64 sp,.int .i64 sl] 173)).cell? ⟨q.f,2,none⟩=some (.int .i64 q.next):=d2;have xb0:(w.alloc (.cells #[.int .i64 sp,.int .i64 sl] 173)).cell? ⟨w.heap.size,0,none⟩=some (.int .i64 sp):=b0;have xb1:(w.alloc (.cells #[.int .i64 sp,.int .i64 sl] 173)).cell? ⟨w.heap.size,1,none⟩=some (.int .i64 sl):=b1
 have xf:∀i,(w.alloc (.cells #[.int .i64 sp,.int .i64 sl] 173)).frozen? ⟨q.f,i,none⟩=false:=Aw;have y0:((w.alloc (.cells #[.int .i64 sp,.int .i64 sl] 173)).setCell ⟨q.f,2,none⟩ (.int .i64 (q.next+1))).cell? ⟨q.f,0,none⟩=some (.map (some q.m)):=g0;have y2:((w.alloc (.cells #[.int .i64 sp,.int .i64 sl] 173)).setCell ⟨q.f,2,none⟩ (.int .i64 (q.next+1))).cell? ⟨q.f,2,none⟩=some (.int .i64 (q.next+1)):=g2;have z0:(((w.alloc (.cells #[.int .i64 sp,.int .i64 sl] 173)).setCell ⟨q.f,2,none⟩ (.int .i64 (q.next+1))).alloc (.cells #[.int .i64 sp,.int .i64 sl,.int .i64 0,.slice none 0 0] 285)).cell? ⟨q.f,0,none⟩=some (.map (some q.m)):=n0
 have z2:(((w.alloc (.cells #[.int .i64 sp,.int .i64 sl] 173)).setCell ⟨q.f,2,none⟩ (.int .i64 (q.next+1))).alloc (.cells #[.int .i64 sp,.int .i64 sl,.int .i64 0,.slice none 0 0] 285)).cell? ⟨q.f,2,none⟩=some (.int .i64 (q.next+1)):=n2;have r3x:(Instr.mapUpdate 280 (.map (some q.m)) (.int .i64 (q.next+1)) (.pointer (some ⟨w.heap.size+1,0,none⟩))).run prog (((w.alloc (.cells #[.int .i64 sp,.int .i64 sl] 173)).setCell ⟨q.f,2,none⟩ (.int .i64 (q.next+1))).alloc (.cells #[.int .i64 sp,.int .i64 sl,.int .i64 0,.slice none 0 0] 285)).drew.drew=.ok () w3:=r3;clear r3 g0 g2 n0 n2 b0 b1 d0 d1 d2 Aw;clear keep st f2' h0 hb h ok hp Aq EY
 go_enter func105,ntmps105;go_wp2_with fail;refine ka.mono ?_;rintro e w' ⟨rfl,rfl⟩;go_wp2_with fail;go_region;go_wp2_with fail;go_region;go_wp2_with fail;go_region;go_wp2_with fail
 first|exact⟨rfl,HS.out⟩|(go_ret2;exact⟨rfl,HS.out⟩)
theorem Z8x {w:World} {q:FO} (h:Sep w q.hl) (ok:q.Ok) {par:Int} {e:En Nd} (hf:find q.N par=some e) {sp sl:Int} (hp:Q1K prog 173 (sp,sl)) (Aq:ownN q.N sp sl=0) :
  Calls prog 105 #[.pointer (some ⟨q.f,0,none⟩),.int .i64 par,.int .i64 sp,.int .i64 sl] w fun r w'=>r=.returned (.tuple #[.int .i64 (q.next+1),.int .i64 0])/\∃rv',rvOk rv' (e.q.ks.length+1)/\Step q.hl ((q.app (w.heap.size+1) ⟨sp,sl,par,[]⟩).setN par {e.q with ks:=e.q.ks++[q.next+1]} rv').hl w w':=by
 have ka:=Q2P h hf;have h0:=(h.alloc (.cells #[.int .i64 sp,.int .i64 sl] 173)).drew;have hl:=FO.look_own h0 ok hp;rw [Aq] at hl;have c0:=FO.c0 h;have c1:=FO.c1 h;have c2:=FO.c2 h;have d0:=FO.c0 h0;have d1:=FO.c1 h0;have d2:=FO.c2 h0;have hb:=Cells.new w 173 [.int .i64 sp,.int .i64 sl];obtain⟨w3,w4,r3,r4,st,f0,f1,f2,g0,g2,n0,n2,keep⟩:=FO.appSteps (par:=par) h0 ok hp Aq _ _ rfl rfl;have Bj:(w.alloc (.cells #[.int .i64 sp,.int .i64 sl] 173)).drew.heap.size=w.heap.size+1:=by simp [World.drew]
 have EY:w.heap.size∉keys q.hl:=fun hk=>by have:=h.lt hk;omega
 have b0:(w.alloc (.cells #[.int .i64 sp,.int .i64 sl] 173)).drew.cell? ⟨w.heap.size,0,none⟩=some (.int .i64 sp):=hb.cell 0 _ rfl;have b1:(w.alloc (.cells #[.int .i64 sp,.int .i64 sl] 173)).drew.cell? ⟨w.heap.size,1,none⟩=some (.int .i64 sl):=hb.cell 1 _ rfl;have e0:=keep w.heap.size 0 _ EY (by omega) b0;have e1:=keep w.heap.size 1 _ EY (by omega) b1;rw [Bj] at r3 st;obtain⟨BU,EL⟩:=Q0b hf;have Jz:=ok.n.rng e BU;have FX:find (q.app (w.heap.size+1) ⟨sp,sl,par,[]⟩).N par=some e:=by
  show find (q.N++[_]) par=_;rw [Q8b,hf];rfl
 have C7:(q.app (w.heap.size+1) ⟨sp,sl,par,[]⟩).N.Pairwise (fun a b=>a.id≠b.id):=by
  show (q.N++[_]).Pairwise _;rw [J3n];refine⟨ok.n.ids,by simp,fun x hx y hy=>?_⟩;rw [J4H] at hy;subst hy;have:=ok.n.rng x hx;show x.id≠q.next+1;omega
 have CF:(q.app (w.heap.size+1) ⟨sp,sl,par,[]⟩).kr par=q.kr par:=if_neg (by omega);have AO:=ok.rv e BU;rw [EL] at AO;have Cx:=ok.n.kids_few BU;have Gx:=ok.few;obtain⟨rv',w5,r5,Cz,k3,kf,st5⟩:=FO.pushK st.sep.drew C7 FX (by rw [CF];exact AO) (by omega) (q.next+1) 38;rw [CF] at r5 k3;have r5x:(Builtin.append_ #[38,38] 38 #[lvOf (q.kr par) e.q.ks.length,.slice (some ⟨w4.heap.size,0,none⟩) 1 1]).run prog (w4.alloc (.cells #[.int .i64 (q.next+1)] 3)).drew=.ok (lvOf rv' (e.q.ks.length+1)) w5:=r5;clear r5;have m3:=(FO.nd st.sep FX).cell 3 (lvOf ((q.app (w.heap.size+1) ⟨sp,sl,par,[]⟩).kr e.id) e.q.ks.length) rfl
 rw [EL,CF] at m3;have m2:w4.cell? ⟨q.f,2,none⟩=some (.int .i64 (q.next+1)):=FO.c2 st.sep;have sa:=st.sep.alloc (.cells #[.int .i64 (q.next+1)] 3);have v3:=(FO.nd sa FX).cell 3 (lvOf ((q.app (w.heap.size+1) ⟨sp,sl,par,[]⟩).kr e.id) e.q.ks.length) rfl;rw [EL,CF] at v3;have v2:(w4.alloc (.cells #[.int .i64 (q.next+1)] 3)).cell? ⟨q.f,2,none⟩=some (.int .i64 (q.next+1)):=FO.c2 sa;have u2:(w5.setCell ⟨e.b,3,none⟩ (lvOf rv' (e.q.ks.length+1))).cell? ⟨q.f,2,none⟩=some (.int .i64 (q.next+1)):=FO.c2 st5.sep;have HS:Hid (∃rz,rvOk rz (e.q.ks.length+1)/\Step q.hl ((q.app (w.heap.size+1) ⟨sp,sl,par,[]⟩).setN par {e.q with ks:=e.q.ks++[q.next+1]} rz).hl w (w5.setCell ⟨e.b,3,none⟩ (lvOf rv' (e.q.ks.length+1)))):=⟨rv',Cz,(st.trans st5.from_drew).from_drew.from_alloc⟩
 have Aw:∀i,(w.alloc (.cells #[.int .i64 sp,.int .i64 sl] 173)).drew.frozen? ⟨q.f,i,none⟩=false:=(FO.c h0).free;have Bq:q.next+1<1099511627777:=by have:=ok.lim;omega
 have Ma:=ok.n.next0;obtain⟨e00,_⟩:=e0;obtain⟨e10,_⟩:=e1;have x0:(w.alloc (.cells #[.int .i64 sp,.int .i64 sl] 173)).cell? ⟨q.f,0,none⟩=some (.map (some q.m)):=d0;have x1:(w.alloc (.cells #[.int .i64 sp,.int .i64 sl] 173)).cell? ⟨q.f,1,none⟩=some (.map (some q.o)):=d1;have x2:(w.alloc (.cells #[.int .i64 sp,.int .i64 sl] 173)).cell? ⟨q.f,2,none⟩=some (.int .i64 q.next):=d2;have xb0:(w.alloc (.cells #[.int .i64 sp,.int .i64 sl] 173)).cell? ⟨w.heap.size,0,none⟩=some (.int .i64 sp):=b0;have xb1:(w.alloc (.cells #[.int .i64 sp,.int .i64 sl] 173)).cell? ⟨w.heap.size,1,none⟩=some (.int .i64 sl):=b1
 have xf:∀i,(w.alloc (.cells #[.int .i64 sp,.int .i64 sl] 173)).frozen? ⟨q.f,i,none⟩=false:=Aw;have y0:((w.alloc (.cells #[.int .i64 sp,.int .i64 sl] 173)).setCell ⟨q.f,2,none⟩ (.int .i64 (q.next+1))).cell? ⟨q.f,0,none⟩=some (.map (some q.m)):=g0;have y2:((w.alloc (.cells #[.int .i64 sp,.int .i64 sl] 173)).setCell ⟨q.f,2,none⟩ (.int .i64 (q.next+1))).cell? ⟨q.f,2,none⟩=some (.int .i64 (q.next+1)):=g2;have z0:(((w.alloc (.cells #[.int .i64 sp,.int .i64 sl] 173)).setCell ⟨q.f,2,none⟩ (.int .i64 (q.next+1))).alloc (.cells #[.int .i64 sp,.int .i64 sl,.int .i64 par,.slice none 0 0] 285)).cell? ⟨q.f,0,none⟩=some (.map (some q.m)):=n0
 have z2:(((w.alloc (.cells #[.int .i64 sp,.int .i64 sl] 173)).setCell ⟨q.f,2,none⟩ (.int .i64 (q.next+1))).alloc (.cells #[.int .i64 sp,.int .i64 sl,.int .i64 par,.slice none 0 0] 285)).cell? ⟨q.f,2,none⟩=some (.int .i64 (q.next+1)):=n2;have r3x:(Instr.mapUpdate 280 (.map (some q.m)) (.int .i64 (q.next+1)) (.pointer (some ⟨w.heap.size+1,0,none⟩))).run prog (((w.alloc (.cells #[.int .i64 sp,.int .i64 sl] 173)).setCell ⟨q.f,2,none⟩ (.int .i64 (q.next+1))).alloc (.cells #[.int .i64 sp,.int .i64 sl,.int .i64 par,.slice none 0 0] 285)).drew.drew=.ok () w3:=r3;clear r3 g0 g2 n0 n2 b0 b1 d0 d1 d2 Aw
 obtain⟨va,vk,vc,hV⟩:∃a k c,lvOf rv' (e.q.ks.length+1)=.slice a k c:=by
  cases rv' with
  | none=>exact⟨_,_,_,rfl⟩
  | some p=>exact⟨_,_,_,rfl⟩
 rw [hV] at r5x u2 HS;clear hV;generalize lvOf (q.kr par) e.q.ks.length=V at *
 have HR:=Q0a r5x;clear r5x;clear keep st sa st5 FX C7 CF AO Cx Gx BU EL Jz hf h0 hb h ok hp Aq EY;go_enter func105,ntmps105;go_wp2_with fail;refine ka.mono ?_;rintro e w' ⟨rfl,rfl⟩;go_wp2_with fail;go_region;go_wp2_with fail;go_region;go_wp2_with fail;go_region;go_wp2_with fail
 go_region_law (refine Q0F rfl _ _ 38 38 rfl _ _ (by simp [Act.eval]) (by simp [Act.eval]) HR.out ?_)
 all_goals
  go_wp2_with fail
  first|exact⟨rfl,HS.out⟩|(go_ret2;exact⟨rfl,HS.out⟩)
theorem Z5X {q:FO} (ok:q.Ok) (b:Nat) (sp sl:Int):(q.app b ⟨sp,sl,0,[]⟩).N=addN q.N 0 (q.next+1) b sp sl:=by
 unfold addN;rw [Z0u fun c hc=>if_neg (by have:=ok.n.rng c hc;omega)];rfl
theorem Z8y {q:FO} (ok:q.Ok) {par:Int} {e:En Nd} (hf:find q.N par=some e) (b:Nat) (sp sl:Int) (rv:RV) :
  ((q.app b ⟨sp,sl,par,[]⟩).setN par {e.q with ks:=e.q.ks++[q.next+1]} rv).N=addN q.N par (q.next+1) b sp sl:=by
 obtain⟨he,hid⟩:=Q0b hf;have hr:=ok.n.rng e he;show mapE _ (q.N++[_])=_;unfold addN mapE;rw [J6d];congr 1
 ·refine J4J fun c hc=>?_
  by_cases h:c.id=par
  ·have:c=e:=by
    have:=Q0l ok.n.ids hc;rw [h,hf] at this;cases this;rfl
   subst this;simp only [h,if_true]
  ·simp only [h,if_false]
 ·have Aa:¬(q.next+1=par):=by omega
  simp only [J2B,J5g,Aa,if_false]
structure Z1N (q:FO) (par sp sl:Int) (q':FO):Prop where
 f:q'.f=q.f
 m:q'.m=q.m
 o:q'.o=q.o
 N:∃b,q'.N=addN q.N par (q.next+1) b sp sl
 next:q'.next=q.next+1
 ok:q'.Ok
theorem Q8d {w:World} {q:FO} (h:Sep w q.hl) (ok:q.Ok) {par sp sl:Int} (Bg:par=0∨∃e,find q.N par=some e) (h1:0<=sp) (h2:sp<4294967296) (h3:0<=sl) (h4:sl<256) (Aq:ownN q.N sp sl=0) (hlim:q.next+1<1099511627776) (Cx:q.N.length<65536) :
  Calls prog 105 #[.pointer (some ⟨q.f,0,none⟩),.int .i64 par,.int .i64 sp,.int .i64 sl] w fun r w'=>r=.returned (.tuple #[.int .i64 (q.next+1),.int .i64 0])/\∃q':FO,Z1N q par sp sl q'/\Step q.hl q'.hl w w':=by
 have hp:=Q3j (p:=(sp,sl)) h1 (by show sp<_;omega) h3 (by show sl<_;omega);have Ae:∀b,(addN q.N par (q.next+1) b sp sl).length<=65536:=fun b=>by
  unfold addN mapE;rw [J3j,J4j,J6B];omega
 have hn:∀b,NOk (addN q.N par (q.next+1) b sp sl) (q.next+1):=fun b=>ok.n.add b Bg ((Q1s ok.n).1 Aq) h1 h2 h3 h4
 rcases Bg with rfl|⟨e,hf⟩
 ·refine (Z5W h ok hp Aq).mono ?_;rintro r w' ⟨rfl,st⟩;have eN:=Z5X ok (w.heap.size+1) sp sl;refine⟨rfl,q.app (w.heap.size+1) ⟨sp,sl,0,[]⟩,⟨rfl,rfl,rfl,⟨_,eN⟩,rfl,⟨by rw [eN];exact hn _,hlim,fun c hc=>?_,by rw [eN];exact Ae _⟩⟩,st⟩;rcases J3o.1 (show c∈q.N++[_] from hc) with hc|hc
  ·have:=ok.n.rng c hc;have hk:(q.app (w.heap.size+1) ⟨sp,sl,0,[]⟩).kr c.id=q.kr c.id:=if_neg (by omega);rw [hk];exact ok.rv c hc
  ·rw [J4H] at hc;subst hc;have hk:(q.app (w.heap.size+1) ⟨sp,sl,0,[]⟩).kr (q.next+1)=none:=if_pos rfl;show rvOk ((q.app (w.heap.size+1) ⟨sp,sl,0,[]⟩).kr (q.next+1)) 0;rw [hk];rfl
 ·refine (Z8x h ok hf hp Aq).mono ?_;rintro r w' ⟨rfl,rv,AO,st⟩;have eN:=Z8y ok hf (w.heap.size+1) sp sl rv;obtain⟨he,hid⟩:=Q0b hf;have hr:=ok.n.rng e he;refine⟨rfl,(q.app (w.heap.size+1) ⟨sp,sl,par,[]⟩).setN par {e.q with ks:=e.q.ks++[q.next+1]} rv,⟨rfl,rfl,rfl,⟨_,eN⟩,rfl,⟨by rw [eN];exact hn _,hlim,fun c hc=>?_,by rw [eN];exact Ae _⟩⟩,st⟩;obtain⟨d,hd,rfl⟩:=Q1r (show c∈mapE _ (q.N++[_]) from hc);by_cases Eq:d.id=par
  ·have hk:((q.app (w.heap.size+1) ⟨sp,sl,par,[]⟩).setN par {e.q with ks:=e.q.ks++[q.next+1]} rv).kr d.id=rv:=if_pos Eq;show rvOk (((q.app (w.heap.size+1) ⟨sp,sl,par,[]⟩).setN par {e.q with ks:=e.q.ks++[q.next+1]} rv).kr d.id) (if d.id=par then ({e.q with ks:=e.q.ks++[q.next+1]}:Nd) else d.q).ks.length;rw [hk,if_pos Eq]
   simpa using AO
  ·have hk:((q.app (w.heap.size+1) ⟨sp,sl,par,[]⟩).setN par {e.q with ks:=e.q.ks++[q.next+1]} rv).kr d.id=(q.app (w.heap.size+1) ⟨sp,sl,par,[]⟩).kr d.id:=if_neg Eq;show rvOk (((q.app (w.heap.size+1) ⟨sp,sl,par,[]⟩).setN par {e.q with ks:=e.q.ks++[q.next+1]} rv).kr d.id) (if d.id=par then ({e.q with ks:=e.q.ks++[q.next+1]}:Nd) else d.q).ks.length;rw [hk,if_neg Eq];rcases J3o.1 hd with hd|hd
   ·have:=ok.n.rng d hd;have A2:(q.app (w.heap.size+1) ⟨sp,sl,par,[]⟩).kr d.id=q.kr d.id:=if_neg (by omega);rw [A2];exact ok.rv d hd
   ·rw [J4H] at hd;subst hd;have A2:(q.app (w.heap.size+1) ⟨sp,sl,par,[]⟩).kr (q.next+1)=none:=if_pos rfl;show rvOk ((q.app (w.heap.size+1) ⟨sp,sl,par,[]⟩).kr (q.next+1)) 0;rw [A2];rfl
end Go.Proofs.YtfidemmgofcnmaaGreatDoor
