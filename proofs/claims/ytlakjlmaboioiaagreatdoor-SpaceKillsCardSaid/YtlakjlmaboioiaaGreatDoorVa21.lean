/- What the laws of spaces share is proved. No condition. Part of a proof. -/
import Derived.Test.YtlakjlmaboioiaaGreatDoorVa20
set_option maxHeartbeats 4000000
set_option maxRecDepth 100000
set_option linter.unusedVariables false
namespace Go.Proofs.YtlakjlmaboioiaaGreatDoor
open Go.RowKit Go.Proofs.Tryz
def J1E (q:FO) (e:En Nd) (w w':World):Prop:=∃F':FO,F'.f=q.f/\F'.N=Q0C q.N e e.q.ks.length/\F'.next=q.next/\F'.Ok/\Step q.hl F'.hl w w'
theorem Z6I {w w':World} {q F:FO} {e:En Nd} (ok:q.Ok) (he:find q.N e.id=some e) (L:Z3t q e e.q.ks.length F) (st:Step q.hl (F.hl++ndH q.kr e) w w'):J1E q e w w':=by
 refine⟨F,L.f,L.N,L.next,⟨by rw [L.N,L.next];exact ok.n.lift he,by rw [L.next];exact ok.lim,L.rv,?_⟩,st.drop (J2W _ _)⟩;rw [L.N];unfold Q0C mapE;rw [J3Q];exact J2i (Q1B q.N e.id).length_le ok.few
theorem Z3w {q:FO} (ok:q.Ok) (e:En Nd):Z3t q e 0 (q.dropped e):=⟨rfl,rfl,rfl,rfl,rfl,fun c hc=>by
 obtain⟨d,hd,rfl⟩:=Q1m (show c∈mapE _ (rem q.N e.id) from hc);have h0:=ok.rv d (Q7Z hd);show rvOk (q.kr d.id) (Q0t e 0 d).ks.length;have D3:(Q0t e 0 d).ks.length<=d.q.ks.length:=by
  unfold Q0t;simp only [J5G,J4n];split
  ·exact J4w _ _
  ·exact J2h _
 cases hk:q.kr d.id with
 | none =>
  rw [hk] at h0;have Dy:d.q.ks.length=0:=h0;show (Q0t e 0 d).ks.length=0;omega
 | some gc =>
  rw [hk] at h0;obtain⟨g,cap⟩:=gc;have Dy:d.q.ks.length<=cap/\cap<=maxLen:=h0;exact⟨by omega,Dy.2⟩⟩
theorem Q9H {w:World} {q:FO} (h:Sep w q.hl) (ok:q.Ok) {e:En Nd} (he:find q.N e.id=some e) :
  Calls prog 166 #[.pointer (some ⟨q.f,0,none⟩),.int .i64 e.id] w fun r w'=>(∃v,r=.returned v)/\J1E q e w w':=by
 have ka:=Q2U h he;obtain⟨BS,_⟩:=Q0b he;have kd:=Z6H h ok he;have Fz:=ok.n.kids_few BS;have C8:=ok.few;have HD:=Q0a kd;have Ct:=Q0a ok;have HE:=Q0a he;have Ac:e.q.ks.length<=65536:=by omega
 clear kd h ok he BS;go_enter func166,ntmps166;go_wp2_with fail;refine ka.mono ?_;rintro r w1 ⟨rfl,rfl⟩;go_wp2_with fail;refine HD.out.mono ?_;rintro r w1 ⟨⟨v,rfl⟩,st⟩;have Bf:Cells w1 e.b 287 (e.q.cells (q.kr e.id)):=st.sep.right.cells (by simp [ndH]);have c3:=Bf.cell 3 _ rfl;have Bq:=Q0a st;have RU:=Q0a (rfl:e.q.ks.length=e.q.ks.length);have KT:∃(a:Option Addr) (cap:Nat),lvOf (q.kr e.id) e.q.ks.length=.slice a e.q.ks.length cap/\(∀g c,q.kr e.id=some (g,c)->a=some ⟨g,0,none⟩)/\(q.kr e.id=none->e.q.ks.length=0):=by
  have AQ:=Ct.out.rv e (Q0b HE.out).1;cases Dd:q.kr e.id with
  | none =>
   rw [Dd] at AQ;have C7:e.q.ks.length=0:=AQ;exact⟨none,0,by rw [C7];rfl,fun _ _ h=>by (cases h),fun _=>C7⟩
  | some gc=>exact⟨some ⟨gc.1,0,none⟩,gc.2,rfl,fun g c h=>by cases h;rfl,fun h=>by cases h⟩
 obtain⟨a0,cap,NH,J7,AZ⟩:=KT;rw [NH] at c3;have LS:=Q0a J7;have Hy:=Q0a AZ;have Ft:=Q0a Ac;clear st ka HD Bf NH J7 AZ Fz C8;go_wp2_with fail
 go_loopg [26] e.q.ks.length (fun gk iv wr=>∃(j:Nat) (F:FO),iv=.int .i64 j/\j+gk=e.q.ks.length/\Z3t q e j F/\Step q.hl (F.hl++ndH q.kr e) w wr)
 case atStart=>exact⟨0,q.dropped e,rfl,by omega,Z3w Ct.out e,Bq.out⟩
 case round =>
  obtain⟨j,F,rfl,Gg,hL,st⟩:=hrel;have HL:=Q0a hL;have JS:=Q0a Gg;have HS:=Q0a st;by_cases hj:j<e.q.ks.length
  ·obtain⟨k,hk⟩:∃k,e.q.ks[j]?=some k:=⟨e.q.ks[j],J4y hj⟩
   have Az:∃g,a0=some ⟨g,0,none⟩/\wr.cell? ⟨g,j,none⟩=some (.int .i64 k):=by
    cases Dd:q.kr e.id with
    | none=>have:=Hy.out Dd;omega
    | some gc =>
     have hr:=st.sep.right.tail;rw [Dd] at hr;exact⟨gc.1,LS.out gc.1 gc.2 Dd,Q0Y hr j _ (by rw [J3S,hk];rfl)⟩
   obtain⟨g,rfl,Eb⟩:=Az;obtain⟨c,Gf,⟨f0,e2,CJ,v,Cu⟩,UX,ee2,Ev⟩:=Q7I Ct.out HE.out hL st.sep hk;obtain⟨c',Jj,⟨f0',e2',OU,v',PK⟩,P5,ee2',-⟩:=Q7I Ct.out HE.out hL st.sep.drew hk;rw [Gf] at Jj;obtain rfl:c=c':=J3e Jj;have L9:F.f=q.f:=hL.f;rw [L9] at f0 f0';have hW:=Ev _ (Below.refl _ _).drew;rw [L9] at hW;have ee2d:(wr.setCell ⟨c.b,2,none⟩ (.int .i64 e.q.par)).drew.cell? ⟨e.b,2,none⟩=some (.int .i64 e.q.par):=ee2;by_cases Be:find q.N e.q.par=none
   ·obtain⟨FN,F',L',st'⟩:=hW.1 Be;have PP:=Q0a L';have LV:=Q0a (st.trans st');have Pp:(j:Int)<(e.q.ks.length:Int):=by omega
    have G0:(0:Int)<=(j:Int):=by omega
    have Sf:(j:Int)<65536:=by have:=Ft.out;omega
    generalize e.q.ks.length=n at *
    clear Ev hW Gf Jj L' st' hL st hk Gg Ac Hy;go_wp2_with fail;go_region;go_wp2_with fail;refine FN.mono ?_;rintro r w' ⟨rfl,rfl⟩;go_wp2_with fail;go_roundg (n-(j+1))
    case measure=>have:=JS.out;omega
    case rel=>exact⟨j+1,F',by go_num,by have:=JS.out;omega,PP.out,LV.out⟩
   ·obtain⟨pb,V,FN,Rx,⟨ua,un,uc,rfl⟩,V',w',rap,⟨va,vn,vc,rfl⟩,Xg,pfr,F',L',st'⟩:=hW.2 Be;have PP:=Q0a L';have LV:=Q0a (st.trans st');have Pp:(j:Int)<(e.q.ks.length:Int):=by omega
    have G0:(0:Int)<=(j:Int):=by omega
    have Sf:(j:Int)<65536:=by have:=Ft.out;omega
    have WY:((wr.setCell ⟨c.b,2,none⟩ (.int .i64 e.q.par)).drew.alloc (.cells #[.int .i64 k] 3)).cell? ⟨pb,3,none⟩=some (.slice ua un uc):=(World.cell?_of_block (Below.heap_alloc _ _ _ (World.block_lt_of_cell? _ ⟨pb,3,none⟩ Rx))).trans Rx;have pf3:=pfr 3;generalize e.q.ks.length=n at *
    clear Ev hW Gf Jj L' st' hL st hk Gg Ac Hy pfr;go_wp2_with fail;go_region;go_wp2_with fail;refine FN.mono ?_;rintro r w' ⟨rfl,rfl⟩;generalize hW0:(wr.setCell ⟨c.b,2,none⟩ (.int .i64 e.q.par)).drew=W0 at *
    clear f0 e2 CJ Cu UX ee2 f0' e2' OU PK P5 ee2' ee2d Eb FN hW0;go_wp2_with (at_builtin;refine Lib.wpList_append_run _ rfl _ _ _ _ rfl _ _ rfl rfl _ _ rap ?_);go_roundg (n-(j+1))
    case measure=>have:=JS.out;omega
    case rel=>exact⟨j+1,F',by go_num,by have:=JS.out;omega,PP.out,LV.out⟩
  ·obtain rfl:j=e.q.ks.length:=by omega
   have HR:=Q0a (Z6I Ct.out HE.out hL st);generalize e.q.ks.length=n at *
   clear hL st Ac;go_wp2_with fail
   first|exact⟨⟨_,rfl⟩,HR.out⟩|(go_ret;exact⟨⟨_,rfl⟩,HR.out⟩)
theorem Z3x (a b:Nat) (ha:a<16) (hb:b<16):bits .andNot .i64 (a:Int) (b:Int)=((less a b:Nat):Int):=by
 have:∀a b:Fin 16,bits .andNot .i64 ((a.val:Nat):Int) ((b.val:Nat):Int)=((less a.val b.val:Nat):Int):=by decide +kernel
 exact this ⟨a,ha⟩ ⟨b,hb⟩
theorem Q4U (a b:Nat) (ha:a<16) (hb:b<16):bits .and .i64 (a:Int) (b:Int)=((a&&&b:Nat):Int):=by
 have:∀a b:Fin 16,bits .and .i64 ((a.val:Nat):Int) ((b.val:Nat):Int)=((a.val&&&b.val:Nat):Int):=by decide +kernel
 exact this ⟨a,ha⟩ ⟨b,hb⟩
theorem Q7J {S:CO} {fr:List Nat} {N K:Nat} {tb:Nat->TB} (ok:S.Ok fr N K) (t:TPI S tb) {i s:Nat} {p:Pl} (hi:S.l[i]?=some p) (h1:p.st=1) (h2:p.kind=2) (hs:s<256) {e e2:Ent} (he:(tb i).en s=some e) (hn:e2.nd=e.nd) (hl:e2.Low) {w:World} {g:Nat} (AB:Sep w S.hl) (hg:TblC S p g w) :
  Calls prog 104 #[.pointer (some ⟨g,0,none⟩),.int .i64 s,.int .u64 (e2.a:Nat),.int .u64 (e2.nd:Nat)] w fun r w'=>r=.returned (.int .i64 0)/\J1B S fr N K tb (p.fac:Int) i s (some e2) w w':=by
 have tx:=t.x (p.fac:Int);have An:=Q1r ok.inv.len hi;have T:=tx.tt ok hi h1 h2 AB hg;have FK:(tb i).lf (s/16)≠0:=fun h=>by
  have:=T.tin.hole s hs h;rw [he] at this;cases this
 have Oj:e2.nd∈S.P.usedOf 6:=t.nds.mem_iff.1 (J2H.2 ⟨i,J2x.2 An,mem_nds.2 ⟨s,e,hs,he,hn.symm⟩⟩);have hm:=Q0m ok.inv.mem.pool Oj;have GI:=Q0p ok.inv.mem.pool;obtain⟨l1,l2⟩:=hl;refine (Z2d ok tx hi h1 h2 rfl hs (xn':=[]) (by rw [TB.nds_same hs he hn]) (by show e2.h+1+4294967296*e2.r<_;omega) (by show e2.nd<_;omega) AB hg).mono ?_;rintro r w' (⟨rfl,hp⟩|⟨h0,_⟩)
 ·exact⟨rfl,hp.turn t.full⟩
 ·exact absurd h0 FK
def Z0W (Z:SP) (fr:List Nat) (N K:Nat) (M:Int) (m:Nat) (id:Int) (w:World) (b:Bool) (w':World):Prop:=∃Z',Z'.Ok fr N K M/\weak1 m Z.av id=(Z'.av,b)/\SameZ Z Z'/\Step Z.hl Z'.hl w w'
theorem FPI.low {l:List Pl} {tb:Nat->TB} {N:List (En Nd)} (f:FPI l tb N) (lok:LOk l) {h s:Nat} {e:Ent} (he:Q0f l tb h s=some e):e.Low:=by
 obtain⟨⟨q,hq,_⟩,hr⟩:=f.cap h s e he;have h1:=pget_some.1 hq;have h2:=lok.2 q (Q0z hq);refine⟨?_,by omega⟩;have:nm (e.h%256) q=e.h:=h1.2.1;unfold nm at this;omega
theorem Q9I {w:World} {Z:SP} {fr:List Nat} {N K:Nat} {M:Int} (hs:Sep w Z.hl) (ok:Z.Ok fr N K M) {id:Int} (hf:find Z.F.N id=none) (m:Nat) :
  Calls prog 168 #[.pointer (some ⟨Z.s,0,none⟩),.int .i64 id,.int .i64 m] w fun r w'=>r=.returned (.bool false)/\Z0W Z fr N K M m id w false w':=by
 have c1:=SP.c1 hs;have ko:=Q6z (SP.sF hs) hf;obtain⟨p0,ET,By,_,D1,S5,_⟩:=ok.core.inv.que.root;have Bu:pget Z.S.l 1 0=some p0:=pget_some.2 ⟨ET,by unfold nm;omega,D1⟩;have ks:=Q0J hs ok.core (x:=0) (by omega) 10 (.inr ⟨p0,Bu,by omega,rfl⟩);have HR:Hid (∀w',Below w.heap.size w w'->Z0W Z fr N K M m id w false w'):=fun w' hb=>⟨Z,ok,by unfold weak1;rw [show Z.av.N=Z.F.N from rfl,hf],SameZ.refl Z,hs.grown hb⟩
 clear hs ok hf Bu ET;go_enter func168,ntmps168;go_wp2_with fail;refine ko.mono ?_;rintro r w1 ⟨rfl,rfl⟩;go_wp2_with fail;refine ks.mono ?_;rintro r w1 ⟨rfl,hb⟩;have HQ:=Q0a (HR.out _ (hb.alloc hb.size (.cells #[.pointer none,.int .u32 0,.int .i64 0] 155)));clear hb HR ks ko;go_wp2_with fail
 first|exact⟨rfl,HQ.out⟩|(go_ret;exact⟨rfl,HQ.out⟩)
structure J1Z (Z:SP) (fr:List Nat) (N K:Nat) (M:Int) (m:Nat) (id:Int) (h s g:Nat) (p:Pl) (e:Ent) (w w2:World):Prop where
 go:∀w3,Below w2.heap.size w2 w3->w3.cell? ⟨Z.s,1,none⟩=some (.pointer (some ⟨Z.F.f,0,none⟩)) /\
  Calls prog 74 #[.agg #[.pointer (some ⟨g,0,none⟩),.int .u32 h,.int .i64 (p.fac:Int)],.int .i64 s] w3 (Told w3 (.tuple #[.agg #[.int .u32 (e.h:Int),.int .i64 (e.r:Int)],.bool true])) /\
  Calls prog 103 #[.pointer (some ⟨g,0,none⟩),.int .i64 s] w3 (fun r w'=>r=.returned (.tuple #[.int .u64 (e.a:Nat),.int .u64 (e.nd:Nat)])/\w3=w')
 lift:less e.r m=0->∀w3,Below w2.heap.size w2 w3->Calls prog 166 #[.pointer (some ⟨Z.F.f,0,none⟩),.int .i64 id] w3 fun r w4=>(∃v,r=.returned v)/\(∀b,w2.heap.size<=b->b<w3.heap.size->w4.heap[b]?=w3.heap[b]?)/\w3.heap.size<=w4.heap.size /\
  Calls prog 81 #[.pointer (some ⟨Z.s,0,none⟩),.agg #[.pointer (some ⟨g,0,none⟩),.int .u32 h,.int .i64 (p.fac:Int)],.int .i64 s] w4 fun r w5=>r=.returned (.tuple #[])/\Z0W Z fr N K M m id w true w5
 set:less e.r m≠0->∀w3,Below w2.heap.size w2 w3->Calls prog 104 #[.pointer (some ⟨g,0,none⟩),.int .i64 s,.int .u64 ((⟨e.h,less e.r m,0⟩:Ent).a:Nat),.int .u64 (e.nd:Nat)] w3 fun r w4=>r=.returned (.int .i64 0)/\(∀b,w2.heap.size<=b->b<w3.heap.size->w4.heap[b]?=w3.heap[b]?)/\Z0W Z fr N K M m id w false w4
theorem Step.keep {H H':HL} {w w1 w':World} {B:Nat} (st:Step H H' w1 w') (hs:Sep w H) (hB:w.heap.size<=B):∀b,B<=b->b<w1.heap.size->w'.heap[b]?=w1.heap[b]?:=fun b h1 h2=>st.chg.block b h2 fun hk=>by
 have:=hs.lt hk;omega
theorem Z3y {w w1:World} {Z:SP} {fr:List Nat} {N K:Nat} {M:Int} (hs:Sep w Z.hl) (hb:Below w.heap.size w w1) (ok:Z.Ok fr N K M) {id:Int} {n:En Nd} (hf:find Z.F.N id=some n) {m:Nat} (hm:m<16) (hd:m=15∨Q3J m Z.av [] id)
  {h s:Nat} {p:Pl} {e:Ent} (h1:n.q.sp=(h:Int)) (h2:n.q.sl=(s:Int)) (hh:h<4294967296) (A9:s<256) (hp:pget Z.S.l 1 h=some p) (hk:p.kind=2) (AP:(Z.tb (h%256)).en s=some e) (he:Q0f Z.S.l Z.tb h s=some e) :
  Calls prog 73 #[.pointer (some ⟨Z.s,0,none⟩),.int .u32 h] w1 fun r w2=>∃g:Nat,r=.returned (.tuple #[.agg #[.pointer (some ⟨g,0,none⟩),.int .u32 h,.int .i64 (p.fac:Int)],.int .i64 0])/\J1Z Z fr N K M m id h s g p e w w2:=by
 have s1:=(hs.grown hb).sep;have hi:=(pget_some.1 hp).1;have Ap:=(pget_some.1 hp).2.2;have AA:=ok.fpi.low ok.core.inv.lok he;have hr:=(ok.fpi.cap h s e he).r;refine (Q0U s1 ok.core hh hp hk).mono ?_;rintro r w2 ⟨g,rfl,Af,hg⟩;have DH:Below w.heap.size w w2:=hb.trans (Af.mono hb.size);have grow:∀w3,Below w2.heap.size w2 w3->Below w.heap.size w w3/\Sep w3 Z.hl/\TblZ Z p g w3:=fun w3 As=>by
  have Al:Below w.heap.size w w3:=DH.trans (As.mono DH.size);exact⟨Al,(hs.grown Al).sep,hg.grown (hs.grown DH).sep As⟩
 have AC:(Z.tb (h%256)).at' (s:Int)=some e:=by unfold TB.at';rw [if_pos ⟨by omega,by omega⟩,J3m,AP]
 refine⟨g,rfl,fun w3 As=>?_,fun h0 w3 As=>?_,fun h0 w3 As=>?_⟩
 ·obtain⟨Al,s3,g3⟩:=grow w3 As;have T:=(ok.tpi.x (p.fac:Int)).tt ok.core hi Ap hk (SP.sS s3) g3.c;have kc:=Q1w T (h:Int) (p.fac:Int) (s:Int) (fun e' AL=>by rw [AC] at AL;cases AL;exact AA);have kg:=Q3L T (s:Int);rw [AC] at kc kg;exact⟨SP.c1 s3,kc,kg⟩
 ·obtain⟨Al,s3,g3⟩:=grow w3 As;obtain⟨hn,hid⟩:=Q0b hf;have kl:=Q9H (SP.sF s3) ok.fo (e:=n) (by rw [hid];exact hf);rw [hid] at kl;refine kl.mono ?_;rintro r w4 ⟨hv,F',Gs,Ov,Jo,EH,st⟩;have stz:=SP.stepF s3 F' Gs st;have g4:TblZ (Z.setF F') p g w4:=g3.step stz rfl;refine⟨hv,stz.keep hs DH.size,stz.chg.size,?_⟩;refine (Q4S (Z:=Z.setF F') stz.sep ok.core ok.tpi hi Ap hk A9 AP g4).mono ?_;rintro r w5 ⟨rfl,S',t',T,stt⟩;obtain⟨a1,a2,a3⟩:=ok.lifted hf h1 h2 hp hk A9 he h0 T Ov EH Jo Gs;exact⟨rfl,_,a1,a2,a3,((hs.grown Al).trans stz).trans stt⟩
 ·obtain⟨Al,s3,g3⟩:=grow w3 As;have DV:Q3J m Z.av [] id:=by
   rcases hd with rfl|hd
   ·exact absurd (Q4M e.r (by omega)) h0
   ·exact hd
  refine (Q7J (e2:=⟨e.h,less e.r m,e.nd⟩) ok.core ok.tpi hi Ap hk A9 AP rfl ⟨AA.1,by have:=(Q5P e.r (by omega) m hm).2.2;show less e.r m<16;omega⟩ (SP.sS s3) g3.c).mono ?_;rintro r w4 ⟨rfl,S',t',T,stt⟩;have stz:=SP.stepS s3 S' (updT Z.tb (h%256) t') T.alt.c stt;obtain⟨a1,a2,a3⟩:=ok.weakened hf h1 h2 hp hk A9 he hm h0 DV T;exact⟨rfl,stz.keep hs DH.size,_,a1,a2,a3,(hs.grown Al).trans stz⟩
theorem Q9J {w:World} {Z:SP} {fr:List Nat} {N K:Nat} {M:Int} (hs:Sep w Z.hl) (ok:Z.Ok fr N K M) {id:Int} {n:En Nd} (hf:find Z.F.N id=some n) (m:Nat) (D2:1<=m) (hm:m<16) (hd:m=15∨Q3J m Z.av [] id) :
  Calls prog 168 #[.pointer (some ⟨Z.s,0,none⟩),.int .i64 id,.int .i64 m] w fun r w'=>∃b:Bool,r=.returned (.bool b)/\Z0W Z fr N K M m id w b w':=by
 obtain⟨hn,hid⟩:=Q0b hf;obtain⟨h,s,p,e,h1,h2,hh,A9,hp,hk,AP,he⟩:=ok.fpi.task ok.fo.n hn;have AA:=ok.fpi.low ok.core.inv.lok he;have hr:=(ok.fpi.cap h s e he).r;have c1:=SP.c1 hs;have ko:=Q6A (SP.sF hs) hf;rw [h1,h2] at ko;have NL:=Z3x e.r m (by omega) hm;have JV:Hid (∀w,Calls prog 105 #[.agg #[.int .u32 (e.h:Int),.int .i64 ((less e.r m:Nat):Int)]] w (Told w (.int .u64 ((⟨e.h,less e.r m,0⟩:Ent).a:Nat)))):=fun w=>Q6C w e.h (less e.r m) AA.1 (by have:=(Q5P e.r (by omega) m hm).2.2;omega)
 have HC:Hid (∀w1,Below w.heap.size w w1->_):=fun w1 hb=>Z3y hs hb ok hf hm hd h1 h2 hh A9 hp hk AP he
 have Qi:(h:Int)<4294967296:=by omega
 have Xc:(0:Int)<=(h:Int):=by omega
 clear hs ok hf hd h1 h2 hh hp hk AP he hn hid AA hr D2 hm;by_cases h0:less e.r m=0
 ·rw [h0] at NL;have M4:=Q0a h0;clear h0 JV;have UA:bits .andNot .i64 (e.r:Int) (m:Int)=0:=NL;clear NL;go_enter func168,ntmps168;go_wp2_with fail;refine ko.mono ?_;rintro r w1 ⟨rfl,Av⟩;have HS:=Q0a (HC.out w1 Av);clear Av HC ko;go_wp2_with fail;refine HS.out.mono ?_;rintro r w2 ⟨g,rfl,hc⟩;have GN:=hc.go _ ((Below.refl _ _).alloc (J2h _) (.cells #[.pointer (some ⟨g,0,none⟩),.int .u32 h,.int .i64 (p.fac:Int)] 155));have FR:=GN.2.1;have Eg:=Q0a hc;clear hc HS GN;have hB:=Cells.new w2 155 [.pointer (some ⟨g,0,none⟩),.int .u32 h,.int .i64 (p.fac:Int)];go_wp2_with fail;refine FR.mono ?_
  rintro r w3 ⟨rfl,As⟩;have BP:Below w2.heap.size w2 w3:=Q0e As;have Ma:=hB.same (As.block w2.heap.size (by simp));have A5:Below w2.heap.size w2 (w3.alloc (.cells #[.int .u32 (e.h:Int),.int .i64 0] 35)):=BP.alloc BP.size _;have d1:=(Eg.out.go _ A5).1;have JY:=Eg.out.lift M4.out _ A5;have Fb:=Ma.alloc (.cells #[.int .u32 (e.h:Int),.int .i64 0] 35);have BU:Hid (∀w5:World,(∀b,w2.heap.size<=b->b<(w3.alloc (.cells #[.int .u32 (e.h:Int),.int .i64 0] 35)).heap.size->w5.heap[b]?=(w3.alloc (.cells #[.int .u32 (e.h:Int),.int .i64 0] 35)).heap[b]?)->Cells w5 w2.heap.size 155 [.pointer (some ⟨g,0,none⟩),.int .u32 h,.int .i64 (p.fac:Int)]):=fun w5 hk=>Fb.same (hk _ (J2h _) Fb.lt)
  have EC:=Q0a JY;clear As BP hB FR Ma Fb A5 JY M4 Eg;go_wp2_with fail;refine EC.out.mono ?_;rintro r w5 ⟨⟨v,rfl⟩,Ex,B7,JM⟩;have Lc:=BU.out w5 Ex;have b0:=Lc.cell 0 _ rfl;have b1:=Lc.cell 1 _ rfl;have b2:=Lc.cell 2 _ rfl;have E9:=Q0a JM;clear Ex B7 JM EC BU Lc;go_wp2_with fail;refine E9.out.mono ?_;rintro r w6 ⟨rfl,hq⟩;have HQ:=Q0a hq;clear hq E9;go_wp2_with fail
  first|exact⟨true,rfl,HQ.out⟩|(go_ret;exact⟨true,rfl,HQ.out⟩)
 ·have Uu:(((less e.r m:Nat):Int)==0)=false:=by simpa using h0
  have M4:=Q0a h0;have Aa:∃lr,lr=less e.r m:=⟨_,rfl⟩
  obtain⟨lr,hl⟩:=Aa;rw [<- hl] at NL Uu JV;have SZ:=Q0a hl;have QL:(lr:Int)≠0:=by
   rw [hl]
   simpa using h0
  have ML:((lr:Int) != 0)=true:=by simpa using QL
  generalize (lr:Int)=lz at *
  clear h0 hl;go_enter func168,ntmps168;go_wp2_with fail;refine ko.mono ?_;rintro r w1 ⟨rfl,Av⟩;have HS:=Q0a (HC.out w1 Av);clear Av HC ko;go_wp2_with fail;refine HS.out.mono ?_;rintro r w2 ⟨g,rfl,hc⟩;have GN:=hc.go _ ((Below.refl _ _).alloc (J2h _) (.cells #[.pointer (some ⟨g,0,none⟩),.int .u32 h,.int .i64 (p.fac:Int)] 155));have FR:=GN.2.1;have Eg:=Q0a hc;clear hc HS GN;have hB:=Cells.new w2 155 [.pointer (some ⟨g,0,none⟩),.int .u32 h,.int .i64 (p.fac:Int)];go_wp2_with fail;refine FR.mono ?_;rintro r w3 ⟨rfl,As⟩;have BP:Below w2.heap.size w2 w3:=Q0e As;have Ma:=hB.same (As.block w2.heap.size (by simp))
  have A5:Below w2.heap.size w2 (w3.alloc (.cells #[.int .u32 (e.h:Int),.int .i64 lz] 35)):=BP.alloc BP.size _;have CX:=(Eg.out.go _ A5).2.2;have Fb:=Ma.alloc (.cells #[.int .u32 (e.h:Int),.int .i64 lz] 35);have IK:=Cells.new w3 35 [.int .u32 (e.h:Int),.int .i64 lz];have s0:=Fb.cell 0 _ rfl;have q0:=IK.cell 0 _ rfl;have q1:=IK.cell 1 _ rfl;have JW:Hid (∀w5,Below (w3.alloc (.cells #[.int .u32 (e.h:Int),.int .i64 lz] 35)).heap.size (w3.alloc (.cells #[.int .u32 (e.h:Int),.int .i64 lz] 35)) w5->Below w2.heap.size w2 w5/\w5.cell? ⟨w2.heap.size,0,none⟩=some (.pointer (some ⟨g,0,none⟩))/\w5.cell? ⟨w3.heap.size,0,none⟩=some (.int .u32 (e.h:Int))/\w5.cell? ⟨w3.heap.size,1,none⟩=some (.int .i64 lz)):=fun w5 AH=>⟨A5.trans (AH.mono A5.size),(Fb.same (AH.block _ Fb.lt)).cell 0 _ rfl,(IK.same (AH.block _ IK.lt)).cell 0 _ rfl,(IK.same (AH.block _ IK.lt)).cell 1 _ rfl⟩
  have BU:Hid (∀(w5 w6:World),Below (w3.alloc (.cells #[.int .u32 (e.h:Int),.int .i64 lz] 35)).heap.size (w3.alloc (.cells #[.int .u32 (e.h:Int),.int .i64 lz] 35)) w5->(∀b,w2.heap.size<=b->b<w5.heap.size->w6.heap[b]?=w5.heap[b]?)->w6.cell? ⟨w2.heap.size,0,none⟩=some (.pointer (some ⟨g,0,none⟩))/\w6.cell? ⟨w3.heap.size,0,none⟩=some (.int .u32 (e.h:Int))/\w6.cell? ⟨w3.heap.size,1,none⟩=some (.int .i64 lz)):=fun w5 w6 AH hk=>by
   have Lc:=Fb.same (AH.block _ Fb.lt);have NQ:=IK.same (AH.block _ IK.lt);have l3:w2.heap.size<=w3.heap.size:=BP.size;exact⟨(Lc.same (hk _ (J2h _) Lc.lt)).cell 0 _ rfl,(NQ.same (hk _ l3 NQ.lt)).cell 0 _ rfl,(NQ.same (hk _ l3 NQ.lt)).cell 1 _ rfl⟩
  clear As BP hB FR Ma Fb IK A5;generalize e.a=ea at *
  go_wp2_with fail;refine CX.mono ?_;rintro r w4 ⟨rfl,rfl⟩;have Oh:=JW.out _ ((Below.refl _ _).drew);obtain⟨bb5,x1,x2,x3⟩:=Oh;have Xj:=Q0a bb5;have KZ:=Eg.out.set M4.out;rw [<- SZ.out] at KZ;have CP:=Q0a KZ;clear bb5 KZ CX Eg M4 SZ;go_wp2_with fail
  go_region_held3 (fun w'=>w'.cell? ⟨w2.heap.size,0,none⟩=some (.pointer (some ⟨g,0,none⟩))/\w'.cell? ⟨w3.heap.size,0,none⟩=some (.int .u32 (e.h:Int))/\w'.cell? ⟨w3.heap.size,1,none⟩=some (.int .i64 lz)) (first|exact⟨s0,q0,q1⟩|exact⟨x1,x2,x3⟩|exact Oh.2|exact UO)
   (first|(go_at_call 105;refine (JV.out _).mono ?_;rintro r w5 ⟨rfl,AH⟩;have CN:=((Below.refl (w3.alloc (.cells #[.int .u32 (e.h:Int),.int .i64 lz] 35)).heap.size _).drew).trans AH;have Oh:=JW.out w5 CN;have CF:=Q0a CN;clear CN AH JV)|(go_at_call 104;refine (CP.out _ Oh.1).mono ?_;rintro r w6 ⟨rfl,Ex,hq⟩;have UO:=BU.out _ w6 CF.out Ex;have HQ:=Q0a hq;clear hq Ex CP))
  go_wp2_with fail
  first|exact⟨false,rfl,HQ.out⟩|(go_ret;exact⟨false,rfl,HQ.out⟩)
theorem Z0X {w:World} {Z:SP} {fr:List Nat} {N K:Nat} {M:Int} (hs:Sep w Z.hl) (ok:Z.Ok fr N K M) (id:Int) (m:Nat) (D2:1<=m) (hm:m<16) (hd:m=15∨Q3J m Z.av [] id) :
  Calls prog 168 #[.pointer (some ⟨Z.s,0,none⟩),.int .i64 id,.int .i64 m] w fun r w'=>∃b:Bool,r=.returned (.bool b)/\Z0W Z fr N K M m id w b w':=by
 cases hf:find Z.F.N id with
 | none=>exact (Q9I hs ok hf m).mono fun r w' ⟨h1,h2⟩=>⟨false,h1,h2⟩
 | some n=>exact Q9J hs ok hf m D2 hm hd
def Q8y (Z:SP) (fr:List Nat) (N K:Nat) (M:Int) (m:Nat) (l:List Int) (w w':World):Prop:=∃Z',Z'.Ok fr N K M/\Z'.av=(Q0M m Z.av l).1/\SameZ Z Z'/\Step Z.hl Z'.hl w w'
structure WaI (Z:SP) (fr:List Nat) (N K:Nat) (M:Int) (m:Nat) (l:List Int) (a:Option Addr) (w:World) (k:Nat) (Z1:SP) (wr:World):Prop where
 ok:Z1.Ok fr N K M
 av:Z1.av=(Q0M m Z.av (l.take k)).1
 same:SameZ Z Z1
 st:Step Z.hl Z1.hl w wr
 row:AsideV Z1.hl (l.map encI) a wr
 wk:WeakOk m Z1.av (l.drop k)
theorem WaI.next {Z Z1:SP} {fr:List Nat} {N K:Nat} {M:Int} {m:Nat} {l:List Int} {a:Option Addr} {w wr w':World} {k:Nat} {x:Int} {b:Bool} (I:WaI Z fr N K M m l a w k Z1 wr) (hx:l[k]?=some x) (hm:m<16) (h:Z0W Z1 fr N K M m x wr b w') :
  (Q0M m Z.av (l.take (k+1))).2=(Q0M m Z.av (l.take k)).2+(if b=true then 1 else 0)/\∃Z2,WaI Z fr N K M m l a w (k+1) Z2 w':=by
 obtain⟨Z2,ok2,e2,s2,st2⟩:=h;have AW:l.take (k+1)=l.take k++[x]:=by rw [J4d,hx];rfl
 have Ga:l.drop k=x::l.drop (k+1):=by
  obtain⟨Ab,hg⟩:=J2y.1 hx;rw [<- hg];exact J5a Ab
 have DW:Q0M m Z.av (l.take (k+1))=(Z2.av,(Q0M m Z.av (l.take k)).2+if b=true then 1 else 0):=by
  rw [AW,weakA_snoc,<- I.av,e2]
 have L8:=I.wk;rw [Ga] at L8;have Ap:=WeakOk.step (a:=Z1.av) (next:=Z1.F.next) I.ok.fo.n (fun h s y hy=>(I.ok.fpi.rights hy).2) hm L8;rw [e2] at Ap;exact⟨by rw [DW],Z2,⟨ok2,by rw [DW],I.same.trans s2,I.st.trans st2,AsideV.step I.row st2,Ap⟩⟩
theorem Q2v {w:World} {Z:SP} {fr:List Nat} {N K:Nat} {M:Int} (hs:Sep w Z.hl) (ok:Z.Ok fr N K M) (m:Nat) (D2:1<=m) (hm:m<16) (l:List Int) (a:Option Addr) (cap:Nat) (hl:l.length<=70000) (Az:AsideV Z.hl (l.map encI) a w) (hk:WeakOk m Z.av l) :
  Calls prog 85 #[.pointer (some ⟨Z.s,0,none⟩),.int .i64 m,.slice a l.length cap] w fun r w'=>r=.returned (.int .i64 ((Q0M m Z.av l).2:Nat))/\Q8y Z fr N K M m l w w':=by
 have Cl:Hid (WaI Z fr N K M m l a w 0 Z w):=⟨ok,rfl,SameZ.refl Z,Step.refl hs,Az,by simpa using hk⟩
 have HM:Hid (1<=m/\m<16):=⟨D2,hm⟩
 have Ft:=Q0a hl;have UV:Hid (∀k,(Q0M m Z.av (l.take k)).2<=l.length):=fun k=>J2i (Q5Q m _ _) (List.length_take_le' k l)
 have Du:Hid (Q0M m Z.av (l.take l.length)=Q0M m Z.av l):=by rw [J6q];exact rfl
 clear hs ok Az hk D2 hm;generalize hn:l.length=n at *
 have HN:=Q0a hn;clear hl hn;go_enter func85,ntmps85;go_wp2_with fail
 go_loopg [7,12] n (fun gk cv iv wr=>∃(k:Nat) (Z1:SP),iv=.int .i64 k/\cv=.int .i64 ((Q0M m Z.av (l.take k)).2:Nat)/\k+gk=n/\WaI Z fr N K M m l a w k Z1 wr)
 case atStart=>exact⟨0,Z,rfl,rfl,by omega,Cl.out⟩
 case round =>
  obtain⟨k,Z1,rfl,rfl,A7,hI⟩:=hrel;have C0:=Q0a A7;have HI:=Q0a hI;by_cases Ab:k<n
  ·obtain⟨x,hx⟩:∃x,l[k]?=some x:=⟨l[k]'(by rw [HN.out];exact Ab),J4y (by rw [HN.out];exact Ab)⟩
   obtain⟨g,rfl,_,_,GZ⟩:=hI.row k (.int .i64 x) (by rw [J3S,hx];rfl);have kw:=Z0X hI.st.sep hI.ok x m HM.out.1 HM.out.2 (by
    rcases hI.wk with h|h
    ·exact .inl h
    ·refine .inr (h [] x (l.drop (k+1)) ?_);obtain⟨Ab,hg⟩:=J2y.1 hx;rw [<- hg];exact J5a Ab)
   rw [hI.same.s] at kw;have HW:=Q0a kw;have HX:=Q0a hx;have DT:=UV.out k;have CE:(k:Int)<(n:Int):=by omega
   have By:(0:Int)<=(k:Int):=by omega
   have FP:(k:Int)<70000:=by have:=Ft.out;omega
   generalize A6:(Q0M m Z.av (l.take k)).2=c at *
   have Cf:(c:Int)<=70000:=by have:=Ft.out;omega
   have G9:(0:Int)<=(c:Int):=by omega
   have Eg:=Q0a A6;clear hI A7 kw hx DT A6;go_wp2_with fail;refine HW.out.mono ?_;rintro r w1 ⟨b,rfl,hz⟩;obtain⟨Cb,Z2,Sy⟩:=HI.out.next HX.out HM.out.2 hz;have RD:=Q0a Sy;rw [Eg.out] at Cb;have N3:=Q0a Cb;clear Cb Sy hz HW HI;cases b with
   | true =>
    go_wp2_with fail;go_roundg (n-(k+1))
    case measure=>have:=C0.out;omega
    case rel=>exact⟨k+1,Z2,by go_num,by rw [N3.out];simp,by have:=C0.out;omega,RD.out⟩
   | false =>
    go_wp2_with fail;go_roundg (n-(k+1))
    case measure=>have:=C0.out;omega
    case rel=>exact⟨k+1,Z2,by go_num,by rw [N3.out];simp,by have:=C0.out;omega,RD.out⟩
  ·obtain rfl:k=n:=by have:=C0.out;omega
   have HR:Hid (((Q0M m Z.av (l.take k)).2=(Q0M m Z.av l).2)/\Q8y Z fr N K M m l w wr):=by
    have h1:l.take k=l:=by rw [<- HN.out,J6q]
    have h2:=hI.av;rw [h1] at h2;exact⟨by rw [h1],Z1,hI.ok,h2,hI.same,hI.st⟩
   rw [HR.out.1];clear hI A7;go_wp2_with fail
   first|exact⟨rfl,HR.out.2⟩|(go_ret;exact⟨rfl,HR.out.2⟩)
def Q5m (l:List Pl) (tb:Nat->TB) (x:Nat) (z:Int):Value:=match pget l 1 x with
 | none=>.tuple #[.agg #[.int .u32 0,.int .i64 0],.int .i64 8]
 | some p=>if p.kind=2 then (if 0<=z/\z<256 then (match Q0f l tb x z.toNat with
   | none=>.tuple #[.agg #[.int .u32 0,.int .i64 0],.int .i64 6]
   | some e=>.tuple #[.agg #[.int .u32 (e.h:Int),.int .i64 (e.r:Int)],.int .i64 0]) else .tuple #[.agg #[.int .u32 0,.int .i64 0],.int .i64 2]) else .tuple #[.agg #[.int .u32 0,.int .i64 0],.int .i64 10]
theorem Q9K {w:World} {Z:SP} {fr:List Nat} {N K:Nat} (hs:Sep w Z.hl) (ok:Z.S.Ok fr N K) {x:Nat} (hx:x<4294967296) (z e:Int) (he:e≠0) (hw:(pget Z.S.l 1 x=none/\e=8)∨∃p,pget Z.S.l 1 x=some p/\p.kind≠2/\e=10) :
  Calls prog 21 #[.pointer (some ⟨Z.s,0,none⟩),.int .u32 x,.int .i64 z] w (Told w (.tuple #[.agg #[.int .u32 0,.int .i64 0],.int .i64 e])):=by
 have b1:Below w.heap.size w (w.alloc (.cells #[.int .u32 0,.int .i64 0] 35)):=(Below.refl _ _).alloc (J2h _) _;have ks:=Q0J (hs.grown b1).sep ok hx e hw;have HC:Hid (∀w1,Below (w.alloc (.cells #[.int .u32 0,.int .i64 0] 35)).heap.size (w.alloc (.cells #[.int .u32 0,.int .i64 0] 35)) w1->(∀o,Cells (w1.alloc o) w.heap.size 35 [.int .u32 0,.int .i64 0])/\∀o a b,Below w.heap.size w (((w1.alloc o).setCell ⟨w.heap.size,0,none⟩ a).setCell ⟨w.heap.size,1,none⟩ b)):=fun w1 Av=>by
  have hR:=(Cells.new w 35 [.int .u32 0,.int .i64 0]).same (Av.block w.heap.size (by simp));exact⟨hR.alloc,fun o a b=>(((Q0e Av).alloc (Q0e Av).size o).setCell (J2h _) _).setCell (J2h _) _⟩
 have Gt:(e==0)=false:=by simpa using he
 clear hs ok hx hw b1;go_enter func21,ntmps21;go_wp2_with fail;refine ks.mono ?_;rintro r w1 ⟨rfl,Av⟩;obtain⟨BW,hz⟩:=HC.out w1 Av;have Aj:=BW (.cells #[.pointer none,.int .u32 0,.int .i64 0] 155);have HZ:=Q0a hz;have e0:=Aj.cell 0 _ rfl;have e1:=Aj.cell 1 _ rfl;have f0:=Aj.free 0;have f1:=Aj.free 1;have Ab:=Aj.lt;clear Av hz Aj BW HC ks;go_wp2_with fail;refine bodyPost_ret (v:=.tuple #[.agg #[.int .u32 0,.int .i64 0],.int .i64 e]) (by simp [results,results21,go_sem,e0,e1]) rfl ⟨rfl,HZ.out _ _ _⟩
theorem Z3z {w:World} {Z:SP} {fr:List Nat} {N K:Nat} {M:Int} (hs:Sep w Z.hl) (ok:Z.Ok fr N K M) {x:Nat} (hx:x<4294967296) {p:Pl} (hp:pget Z.S.l 1 x=some p) (hk:p.kind=2) (z:Int) :
  Calls prog 21 #[.pointer (some ⟨Z.s,0,none⟩),.int .u32 x,.int .i64 z] w (Told w (Q5m Z.S.l Z.tb x z)):=by
 have b1:Below w.heap.size w (w.alloc (.cells #[.int .u32 0,.int .i64 0] 35)):=(Below.refl _ _).alloc (J2h _) _;have s1:=(hs.grown b1).sep;have ks:=Q0U s1 ok.core hx hp hk;have hi:=(pget_some.1 hp).1;have Ap:=(pget_some.1 hp).2.2;have AC:(Z.tb (x%256)).at' z=if 0<=z/\z<256 then Q0f Z.S.l Z.tb x z.toNat else none:=by
  unfold TB.at';split
  ·rename_i h;rw [Q0h hp hk (by omega)]
  ·rfl
 have HC:Hid (∀(w2:World) (g:Nat),Below (w.alloc (.cells #[.int .u32 0,.int .i64 0] 35)).heap.size (w.alloc (.cells #[.int .u32 0,.int .i64 0] 35)) w2->TblZ Z p g w2 ->
   Cells (w2.alloc (.cells #[.pointer (some ⟨g,0,none⟩),.int .u32 x,.int .i64 (p.fac:Int)] 155)) w.heap.size 35 [.int .u32 0,.int .i64 0]/\(∀a b,Below w.heap.size w (((w2.alloc (.cells #[.pointer (some ⟨g,0,none⟩),.int .u32 x,.int .i64 (p.fac:Int)] 155)).setCell ⟨w.heap.size,0,none⟩ a).setCell ⟨w.heap.size,1,none⟩ b)) /\
   Calls prog 74 #[.agg #[.pointer (some ⟨g,0,none⟩),.int .u32 x,.int .i64 (p.fac:Int)],.int .i64 z] (w2.alloc (.cells #[.pointer (some ⟨g,0,none⟩),.int .u32 x,.int .i64 (p.fac:Int)] 155)) (fun r w4=>r=.returned (capV ((Z.tb (x%256)).at' z)) /\
    (∀o,Cells (w4.alloc o) w.heap.size 35 [.int .u32 0,.int .i64 0])/\∀o a b,Below w.heap.size w (((w4.alloc o).setCell ⟨w.heap.size,0,none⟩ a).setCell ⟨w.heap.size,1,none⟩ b))):=fun w2 g Af hg=>by
  have hR:=(Cells.new w 35 [.int .u32 0,.int .i64 0]).same (Af.block w.heap.size (by simp));have Dz:Below w.heap.size w w2:=Q0e Af;have As:Below w2.heap.size w2 (w2.alloc (.cells #[.pointer (some ⟨g,0,none⟩),.int .u32 x,.int .i64 (p.fac:Int)] 155)):=(Below.refl _ _).alloc (J2h _) _;have BP:=Dz.alloc Dz.size (.cells #[.pointer (some ⟨g,0,none⟩),.int .u32 x,.int .i64 (p.fac:Int)] 155);have s2:=(hs.grown Dz).sep;have s3:=(s2.grown As).sep;have T:=(ok.tpi.x (p.fac:Int)).tt ok.core hi Ap hk (SP.sS s3) (hg.grown s2 As).c;refine⟨hR.alloc _,fun a b=>(BP.setCell (J2h _) _).setCell (J2h _) _,(Q1w T (x:Int) (p.fac:Int) z fun e he=>?_).mono ?_⟩
  ·rw [AC] at he;split at he
   ·exact ok.fpi.low ok.core.inv.lok he
   ·cases he
  ·rintro r w4 ⟨rfl,A5⟩;have TU:=(hR.alloc _).same (A5.block w.heap.size (hR.alloc _).lt);have Ew:Below w.heap.size w w4:=BP.trans (A5.mono BP.size);exact⟨rfl,TU.alloc,fun o a b=>((Ew.alloc Ew.size o).setCell (J2h _) _).setCell (J2h _) _⟩
 have hv:Q5m Z.S.l Z.tb x z=if 0<=z/\z<256 then (match (Z.tb (x%256)).at' z with
   | none=>.tuple #[.agg #[.int .u32 0,.int .i64 0],.int .i64 6]
   | some e=>.tuple #[.agg #[.int .u32 (e.h:Int),.int .i64 (e.r:Int)],.int .i64 0]) else .tuple #[.agg #[.int .u32 0,.int .i64 0],.int .i64 2]:=by
  unfold Q5m;rw [hp];simp only;rw [if_pos hk,AC];by_cases h:0<=z/\z<256
  ·simp only [if_pos h]
  ·simp only [if_neg h]
 rw [hv];have Bd:Hid (∀w,Calls prog 75 #[.int .i64 z] w fun r w'=>r=.returned (.bool (decide (0<=z/\z<256)))/\w=w'):=fun w=>Q2V w z
 clear hs ok hx hp hk hi Ap AC hv b1 s1;by_cases hz:0<=z/\z<256
 ·rw [if_pos hz];rw [decide_eq_true hz] at Bd;cases ho:(Z.tb (x%256)).at' z with
  | none =>
   rw [ho] at HC;simp only [capV] at HC;simp only;clear ho hz;go_enter func21,ntmps21;go_wp2_with fail;refine ks.mono ?_;rintro r w2 ⟨g,rfl,Af,hg⟩;obtain⟨-,-,kc⟩:=HC.out w2 g Af hg;have hh:=Bd.out (w2.alloc (.cells #[.pointer (some ⟨g,0,none⟩),.int .u32 x,.int .i64 (p.fac:Int)] 155));clear Af hg HC ks;go_wp2_with fail;refine hh.mono ?_;rintro r w3 ⟨rfl,rfl⟩;go_wp2_with fail;refine kc.mono ?_;rintro r w4 ⟨rfl,BW,hz⟩;have Aj:=BW (.cells #[.int .u32 0,.int .i64 0] 35);have HZ:=Q0a hz;have e0:=Aj.cell 0 _ rfl;have e1:=Aj.cell 1 _ rfl;have f0:=Aj.free 0;have f1:=Aj.free 1;have Ab:=Aj.lt
   clear hz Aj BW kc hh Bd;go_wp2_with fail;refine bodyPost_ret (v:=.tuple #[.agg #[.int .u32 0,.int .i64 0],.int .i64 6]) (by simp [results,results21,go_sem,e0,e1]) rfl ⟨rfl,HZ.out _ _ _⟩
  | some e =>
   rw [ho] at HC;simp only [capV] at HC;simp only;clear ho hz;generalize (e.h:Int)=eh at *
   generalize (e.r:Int)=er at *
   go_enter func21,ntmps21;go_wp2_with fail;refine ks.mono ?_;rintro r w2 ⟨g,rfl,Af,hg⟩;obtain⟨-,-,kc⟩:=HC.out w2 g Af hg;have hh:=Bd.out (w2.alloc (.cells #[.pointer (some ⟨g,0,none⟩),.int .u32 x,.int .i64 (p.fac:Int)] 155));clear Af hg HC ks;go_wp2_with fail;refine hh.mono ?_;rintro r w3 ⟨rfl,rfl⟩;go_wp2_with fail;refine kc.mono ?_;rintro r w4 ⟨rfl,BW,hz⟩;have Aj:=BW (.cells #[.int .u32 eh,.int .i64 er] 35);have HZ:=Q0a hz;have e0:=Aj.cell 0 _ rfl;have e1:=Aj.cell 1 _ rfl;have f0:=Aj.free 0;have f1:=Aj.free 1;have Ab:=Aj.lt;clear hz Aj BW kc hh Bd;go_wp2_with fail
   refine bodyPost_ret (v:=.tuple #[.agg #[.int .u32 eh,.int .i64 er],.int .i64 0]) (by simp [results,results21,go_sem,e0,e1]) rfl ⟨rfl,HZ.out _ _ _⟩
 ·rw [if_neg hz];rw [decide_eq_false hz] at Bd;clear hz;go_enter func21,ntmps21;go_wp2_with fail;refine ks.mono ?_;rintro r w2 ⟨g,rfl,Af,hg⟩;obtain⟨Aj,hz,-⟩:=HC.out w2 g Af hg;have hh:=Bd.out (w2.alloc (.cells #[.pointer (some ⟨g,0,none⟩),.int .u32 x,.int .i64 (p.fac:Int)] 155));have HZ:=Q0a hz;have e0:=Aj.cell 0 _ rfl;have e1:=Aj.cell 1 _ rfl;have f0:=Aj.free 0;have f1:=Aj.free 1;have Ab:=Aj.lt;clear Af hg HC ks hz Aj Bd;go_wp2_with fail;refine hh.mono ?_;rintro r w3 ⟨rfl,rfl⟩;go_wp2_with fail;refine bodyPost_ret (v:=.tuple #[.agg #[.int .u32 0,.int .i64 0],.int .i64 2]) (by simp [results,results21,go_sem,e0,e1]) rfl ⟨rfl,HZ.out _ _⟩
theorem Q6F {w:World} {Z:SP} {fr:List Nat} {N K:Nat} {M:Int} (hs:Sep w Z.hl) (ok:Z.Ok fr N K M) {x:Nat} (hx:x<4294967296) (z:Int) :
  Calls prog 21 #[.pointer (some ⟨Z.s,0,none⟩),.int .u32 x,.int .i64 z] w (Told w (Q5m Z.S.l Z.tb x z)):=by
 cases hp:pget Z.S.l 1 x with
 | none =>
  have:=Q9K hs ok.core hx z 8 (by decide) (.inl ⟨hp,rfl⟩);unfold Q5m;rw [hp];exact this
 | some p =>
  by_cases hk:p.kind=2
  ·exact Z3z hs ok hx hp hk z
  ·have:=Q9K hs ok.core hx z 10 (by decide) (.inr ⟨p,hp,hk,rfl⟩);unfold Q5m;rw [hp];simp only [if_neg hk];exact this
def Q0n (l:List Pl) (tb:Nat->TB) (x:Nat):List Int:=match pget l 1 x with
 | none=>[]
 | some p=>if p.kind=2 then Q0X (tb (x%256)) 256 else []
theorem NewIs.base {w w1 w':World} {L:List Int} {r:Ending} (hb:Below w.heap.size w w1) (h:NewIs w1 L r w'):NewIs w L r w':=by
 obtain⟨v,rfl,h1,h2⟩:=h;exact⟨v,rfl,Q1L h1 hb.size,hb.trans (h2.mono hb.size)⟩
theorem NewIs.nil {w w':World} (hb:Below w.heap.size w w'):NewIs w [] (.returned (.slice none 0 0)) w':=⟨_,rfl,World.ownsRow_nil _ _ _ _,hb⟩
theorem Q3N {w:World} {Z:SP} {fr:List Nat} {N K:Nat} {M:Int} (hs:Sep w Z.hl) (ok:Z.Ok fr N K M) {x:Nat} (hx:x<4294967296) :
  Calls prog 25 #[.pointer (some ⟨Z.s,0,none⟩),.int .u32 x] w (NewIs w (Q0n Z.S.l Z.tb x)):=by
 have KX:∀e:Int,e≠0->((pget Z.S.l 1 x=none/\e=8)∨∃p,pget Z.S.l 1 x=some p/\p.kind≠2/\e=10)->Calls prog 25 #[.pointer (some ⟨Z.s,0,none⟩),.int .u32 x] w (NewIs w []):=fun e he hw=>by
  have ks:=Q0J hs ok.core hx e hw;have Gt:(e==0)=false:=by simpa using he
  have HR:Hid (∀w',Below w.heap.size w w'->∀o,NewIs w [] (.returned (.slice none 0 0)) (w'.alloc o)):=fun w' hb o=>NewIs.nil (hb.alloc hb.size o)
  clear hs ok hx hw;go_enter func25,ntmps25;go_wp2_with fail;refine ks.mono ?_;rintro r w1 ⟨rfl,hb⟩;have HQ:=Q0a (HR.out w1 hb);clear hb HR ks;go_wp2_with fail
  first|exact HQ.out _|(go_ret;exact HQ.out _)
 cases hp:pget Z.S.l 1 x with
 | none =>
  have:=KX 8 (by decide) (.inl ⟨hp,rfl⟩);unfold Q0n;rw [hp];exact this
 | some p =>
  by_cases hk:p.kind=2
  ·have ks:=Q0U hs ok.core hx hp hk;have hi:=(pget_some.1 hp).1;have Ap:=(pget_some.1 hp).2.2;have hL:Q0n Z.S.l Z.tb x=Q0X (Z.tb (x%256)) 256:=by
    unfold Q0n;rw [hp];simp only [if_pos hk]
   rw [hL];have HC:Hid (∀(w2:World) (g:Nat),Below w.heap.size w w2->TblZ Z p g w2->Calls prog 89 #[.pointer (some ⟨g,0,none⟩)] (w2.alloc (.cells #[.pointer (some ⟨g,0,none⟩),.int .u32 x,.int .i64 (p.fac:Int)] 155)) (NewIs w (Q0X (Z.tb (x%256)) 256))):=fun w2 g Af hg=>by
    have As:Below w2.heap.size w2 (w2.alloc (.cells #[.pointer (some ⟨g,0,none⟩),.int .u32 x,.int .i64 (p.fac:Int)] 155)):=(Below.refl _ _).alloc (J2h _) _;have s2:=(hs.grown Af).sep;have T:=(ok.tpi.x (p.fac:Int)).tt ok.core hi Ap hk (SP.sS (s2.grown As).sep) (hg.grown s2 As).c;exact (Q7G T).mono fun r w' h=>h.base (Af.trans (As.mono Af.size))
   clear hs ok hx hp hk hi Ap hL KX;generalize Q0X (Z.tb (x%256)) 256=L at *
   go_enter func25,ntmps25;go_wp2_with fail;refine ks.mono ?_;rintro r w2 ⟨g,rfl,Af,hg⟩;have kt:=HC.out w2 g Af hg;clear Af hg HC ks;go_wp2_with fail;refine kt.mono ?_;rintro r w3 ⟨v,rfl,hq⟩;have HQ:Hid (NewIs w L (.returned v) w3):=⟨v,rfl,hq⟩
   clear hq kt;go_wp2_with fail
   first|exact HQ.out|(go_ret;exact HQ.out)
  ·have:=KX 10 (by decide) (.inr ⟨p,hp,hk,rfl⟩);unfold Q0n;rw [hp];simp only [if_neg hk];exact this
theorem Q2r {w:World} {Z:SP} (hs:Sep w Z.hl):Calls prog 29 #[.pointer (some ⟨Z.s,0,none⟩)] w fun r w'=>r=.returned (.pointer (some ⟨Z.S.c,0,none⟩))/\w=w':=by
 have c0:=SP.c0 hs;clear hs;go_enter func29,ntmps29
 go_wp2
 go_ret;exact⟨rfl,rfl⟩
def encS (p:Int×Int):List Value:=[.int .i64 p.1,.int .i64 p.2]
theorem Z9c:(prog.info? 46).map (fun i=>(i.zero,i.size,i.bytes))=some (some (.agg #[.int .i64 0,.int .i64 0]),2,16):=by kernel_rfl
def OutS (w wr:World) (v:Value) (L:List (Int×Int)):Prop:=wr.ownsRow w.heap.size 46 2 v L.length (L.flatMap encS)/\Below w.heap.size w wr
theorem OutS.nil (w:World):OutS w w (.slice none 0 0) []:=⟨World.ownsRow_nil _ _ _ _,Below.refl _ _⟩
theorem OutS.below {w wr w1:World} {v:Value} {L:List (Int×Int)} (h:OutS w wr v L) (hb:Below wr.heap.size wr w1):OutS w w1 v L:=
 ⟨h.1.kept (row:=none) ⟨hb.os,hb.tape,hb.output,hb.size,fun k hk _=>hb.block k hk⟩ (by cases hv:v.ownBlock with|none=>exact .inl rfl|some b=>exact .inr (by simp)),h.2.trans (hb.mono h.2.size)⟩
theorem OutS.app {w wr:World} {v:Value} {L:List (Int×Int)} (h:OutS w wr v L) (hl:L.length<=16777216) (x y:Int) (ty:TypeId):∃v' w',(Builtin.append_ #[49,49] ty #[v,.slice (some ⟨wr.heap.size,0,none⟩) 1 1]).run prog (wr.alloc (.cells #[.int .i64 x,.int .i64 y] 46))=.ok v' w'/\OutS w w' v' (L++[(x,y)])/\(∀b,b<wr.heap.size->v.ownBlock≠some b->w'.heap[b]?=wr.heap[b]?)/\(v'.ownBlock=v.ownBlock∨∀b,v'.ownBlock=some b->wr.heap.size<=b)/\wr.heap.size<=w'.heap.size:=by
 obtain⟨i0,hi,BN,Bt,Bp⟩:=info_parts Z9c;have h2:=h.below ((Below.refl _ _).alloc (J2h _) (.cells #[.int .i64 x,.int .i64 y] 46));obtain⟨v',w',hr,q1,q2,_,q4⟩:=run_append_own_at (P:=prog) (wr.alloc (.cells #[.int .i64 x,.int .i64 y] 46)) w.heap.size 49 ty 46 i0 (.agg #[.int .i64 0,.int .i64 0]) 2 16 underlying49 hi BN Bt Bp rfl (by decide) v L.length (L.flatMap encS) h2.1 ⟨wr.heap.size,0,none⟩ 1 1 [.int .i64 x,.int .i64 y] rfl (by
  intro j u hj;have:=(Cells.new wr 46 [.int .i64 x,.int .i64 y]).cell j u hj;have e:(⟨wr.heap.size,0,none⟩:Addr).add j=⟨wr.heap.size,j,none⟩:=by unfold Addr.add;split <;> simp_all
  rw [e];exact this) (fun u hu=>by
   rcases J2m.1 hu with rfl|hu
   ·rfl
   ·rw [J4o.1 hu];rfl) (by unfold maxLen;omega) (by omega) h2.2.size
 refine⟨v',w',hr,⟨?_,?_⟩,fun b hb Aa=>?_,?_,?_⟩
 ·rw [J2R,J2P];exact q1
 ·exact h2.2.trans ((Below.refl _ _).mono h2.2.size |>.grown q2 h2.2.size (fun b hb=>(h2.1.lt b hb).1))
 ·rw [q2.block b (by simp;omega) (fun e=>Aa e.symm)];exact Below.heap_alloc _ _ _ hb
 ·rcases q4 with q4|q4
  ·exact .inl q4
  ·refine .inr fun b hb=>?_
   rw [q4] at hb;cases hb;simp
 ·have:=q2.size;simp at this;omega
def NewSp (w:World) (L:List (Int×Int)) (r:Ending) (w':World):Prop:=∃v,r=.returned v/\w'.ownsRow w.heap.size 46 2 v L.length (L.flatMap encS)/\Below w.heap.size w w'
def hasH (l:List Pl) (tb:Nat->TB) (h x:Nat) (s:Int):Bool:=match Q0f l tb x s.toNat with
 | some e=>decide (e.h=h)
 | none=>false
def Q3s (l:List Pl) (tb:Nat->TB) (h x:Nat) (L:List Int):List (Int×Int):=(L.filter (hasH l tb h x)).map fun s=>((x:Int),s)
def Q5E (l:List Pl) (tb:Nat->TB) (h x:Nat):List (Int×Int):=Q3s l tb h x (Q0n l tb x)
def Q1U (l:List Pl) (tb:Nat->TB) (h:Nat) (T:List Nat):List (Int×Int):=T.flatMap (Q5E l tb h)
def Q2J (l:List Pl) (tb:Nat->TB) (h:Nat):List (Int×Int):=Q1U l tb h (allL l 1)
theorem Z3A (l:List Pl) (tb:Nat->TB) (h x:Nat) (L:List Int) (s:Int):Q3s l tb h x (L++[s])=Q3s l tb h x L++if hasH l tb h x s=true then [((x:Int),s)] else []:=by
 unfold Q3s;rw [J4e,J5K];cases hh:hasH l tb h x s <;> simp [hh]
theorem Q9L (l:List Pl) (tb:Nat->TB) (h x:Nat) (L:List Int):(Q3s l tb h x L).length<=L.length:=by
 unfold Q3s;rw [J3Q];exact J4w _ _
theorem Z3B (l:List Pl) (tb:Nat->TB) (h:Nat) (T:List Nat) (x:Nat):Q1U l tb h (T++[x])=Q1U l tb h T++Q5E l tb h x:=by
 unfold Q1U;rw [J2P];simp
theorem Q2X (l:List Pl) (tb:Nat->TB) (x:Nat):(Q0n l tb x).length<=256:=by
 unfold Q0n;split
 ·simp
 ·split
  ·exact Q4m _ _
  ·simp
theorem Q6G (l:List Pl) (tb:Nat->TB) (h:Nat):∀T:List Nat,(Q1U l tb h T).length<=256*T.length
 | []=>J2h _
 | x::r=>by
  have h1:=Q6G l tb h r;have h2:=Q9L l tb h x (Q0n l tb x);have h3:=Q2X l tb x;show ((x::r).flatMap (Q5E l tb h)).length<=_;rw [J2E,J2R,J2S];unfold Q1U at h1;unfold Q5E at h1 ⊢;omega
theorem mem_slotsL {l:List Pl} {tb:Nat->TB} {x:Nat} {z:Int}:z∈Q0n l tb x↔∃s:Nat,z=(s:Int)/\s<256/\∃e,Q0f l tb x s=some e:=by
 unfold Q0n Q0f;cases hp:pget l 1 x with
 | none=>simp
 | some p =>
  simp only;by_cases hk:p.kind=2
  ·rw [if_pos hk];unfold Q0X;simp only [J2n,J2B,J2x,J5M]
   constructor
   ·rintro⟨s,⟨h1,e,h2⟩,rfl⟩;exact⟨s,rfl,h1,e,by rw [if_pos ⟨hk,h1⟩];exact h2⟩
   ·rintro⟨s,rfl,h1,e,h2⟩;rw [if_pos ⟨hk,h1⟩] at h2;exact⟨s,⟨h1,e,h2⟩,rfl⟩
  ·rw [if_neg hk]
   constructor
   ·intro h;cases h
   ·rintro⟨s,rfl,h1,e,h2⟩;rw [if_neg (by simp [hk])] at h2;cases h2
theorem mem_holdL {l:List Pl} {tb:Nat->TB} {h:Nat} {T:List Nat} {p:Int×Int}:p∈Q1U l tb h T↔∃x∈T,∃s:Nat,p=((x:Int),(s:Int))/\s<256/\∃e,Q0f l tb x s=some e/\e.h=h:=by
 unfold Q1U Q5E Q3s;simp only [J2H,J2n,J2B]
 constructor
 ·rintro⟨x,hx,z,⟨h1,h2⟩,rfl⟩;obtain⟨s,rfl,h3,e,h4⟩:=mem_slotsL.1 h1;refine⟨x,hx,s,rfl,h3,e,h4,?_⟩;unfold hasH at h2;rw [J3m,h4] at h2
  simpa using h2
 ·rintro⟨x,hx,s,rfl,h3,e,h4,h5⟩;refine⟨x,hx,(s:Int),⟨mem_slotsL.2 ⟨s,rfl,h3,e,h4⟩,?_⟩,rfl⟩;unfold hasH;rw [J3m,h4]
  simpa using h5
end Go.Proofs.YtlakjlmaboioiaaGreatDoor
