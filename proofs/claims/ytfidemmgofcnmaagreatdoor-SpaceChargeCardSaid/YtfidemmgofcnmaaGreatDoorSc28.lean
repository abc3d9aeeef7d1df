/- SpaceCharge returns true at every input. No condition. Part of its proof. -/
import Derived.Test.YtfidemmgofcnmaaGreatDoorSc27
set_option maxHeartbeats 4000000
set_option maxRecDepth 100000
set_option linter.unusedVariables false
namespace Go.Proofs.YtfidemmgofcnmaaGreatDoor
open Go.RowKit Go.Proofs.Tryz
def isK (l:List Pl) (k:Int) (h:Nat):Bool:=match pget l 1 h with
 | some p=>decide (k=0∨(p.kind:Int)=k)
 | none=>false
def Q2i (l:List Pl) (k:Int) (T:List Nat):List Nat:=T.filter (isK l k)
def nthV (l:List Pl) (k n:Int):Nat:=if (Q2i l k (allL l 1)).length=0∨n<0 then 0 else (Q2i l k (allL l 1)).getD (n%((Q2i l k (allL l 1)).length:Int)).toNat 0
theorem Z3R (l:List Pl) (k:Int) (T:List Nat) (y:Nat):Q2i l k (T++[y])=Q2i l k T++if isK l k y=true then [y] else []:=by
 unfold Q2i;rw [J4x];cases h:isK l k y <;> simp [h]
theorem Q9T (l:List Pl) (k:Int) (T:List Nat):(Q2i l k T).length<=T.length:=J4P _ _
theorem isK_iff {l:List Pl} {k:Int} {h:Nat}:isK l k h=true↔∃p,pget l 1 h=some p/\(k=0∨(p.kind:Int)=k):=by
 unfold isK;cases pget l 1 h with
 | none=>simp
 | some p=>simp
theorem Z9c {l:List Pl} (h:l.length=256):(allL l 1).length<=256:=by
 have:=Q1i l 1 l.length;unfold allL;rw [h] at this ⊢;exact this
theorem Z3S {l:List Pl} {k n:Int}:nthV l k n=0∨(∃p,pget l 1 (nthV l k n)=some p/\(k=0∨(p.kind:Int)=k)):=by
 unfold nthV;split
 ·exact .inl rfl
 ·rename_i h;have h1:=Int.emod_nonneg n (b:=((Q2i l k (allL l 1)).length:Int)) (by omega);have h2:=Int.emod_lt_of_pos n (b:=((Q2i l k (allL l 1)).length:Int)) (by omega);have Ab:(n%((Q2i l k (allL l 1)).length:Int)).toNat<(Q2i l k (allL l 1)).length:=by omega
  refine .inr ?_;rw [J7d,J4R Ab,J5s];have hm:=J5W Ab;unfold Q2i at hm;exact isK_iff.1 (J2T.1 hm).2
theorem Z6Q {l:List Pl} (lok:LOk l) {s h:Nat} {q:Pl} (hq:pget l s h=some q):h<4294967296:=by
 have h1:=pget_some.1 hq;have h2:=lok.2 q (Q0A hq);have:nm (h%256) q=h:=h1.2.1;unfold nm at this;omega
theorem J0T {l:List Pl} (lok:LOk l) (k n:Int):nthV l k n<4294967296:=by
 rcases Z3S (l:=l) (k:=k) (n:=n) with h|⟨p,hp,_⟩
 ·rw [h];omega
 ·exact Z6Q lok hp
theorem J0U {w:World} {Z:SP} {fr:List Nat} {N K:Nat} {M:Int} (hs:Sep w Z.hl) (ok:Z.Ok fr N K M) (k n:Int) (hn:I64 n) :
  Calls prog 35 #[.pointer (some ⟨Z.s,0,none⟩),.int .i64 k,.int .i64 n] w (Told w (.int .u32 ((nthV Z.S.l k n:Nat):Int))):=by
 have Bb:=ok.core.inv.lok;have B7:Hid (∀W,Below w.heap.size w W->Calls prog 26 #[.pointer (some ⟨Z.s,0,none⟩)] W fun r w'=>r=.returned (.pointer (some ⟨Z.S.c,0,none⟩))/\W=w'):=fun W hb=>Q3p (hs.grown hb).sep
 have IL:Hid (∀W,Below w.heap.size w W->Calls prog 28 #[.pointer (some ⟨Z.S.c,0,none⟩)] W (NewHs W (allL Z.S.l 1))):=fun W hb=>Q6n (SP.sS (hs.grown hb).sep) Bb
 have J9:Hid (∀y,y∈allL Z.S.l 1->∃a b c er:Int,((er==0)=isK Z.S.l k y)/\∀W,Below w.heap.size w W->Calls prog 49 #[.pointer (some ⟨Z.S.c,0,none⟩),.int .u32 y,.int .i64 k] W (Told W (.tuple #[.agg #[.int .i64 a,.int .i64 b,.int .i64 c],.int .i64 er]))):=fun y hy=>by
  obtain⟨p,hp⟩:=(Q2H (by rw [Bb.1];omega)).1 hy;have Ab:=Z6Q Bb hp;by_cases hk:k=0∨(p.kind:Int)=k
  ·refine⟨_,_,_,0,?_,fun W hb=>Q3I (SP.sS (hs.grown hb).sep) Bb Ab k hp hk⟩;rw [isK_iff.2 ⟨p,hp,hk⟩];rfl
  ·refine⟨_,_,_,10,?_,fun W hb=>Q4K (SP.sS (hs.grown hb).sep) Bb Ab k hp (by omega) (by omega)⟩;unfold isK;rw [hp];show ((10:Int)==0)=decide (_∨_);rw [decide_eq_false hk];rfl
 have KQ:=Q0a (Z9c Bb.1);obtain⟨CP,FT⟩:=hn;have HV:Hid (nthV Z.S.l k n=if (Q2i Z.S.l k (allL Z.S.l 1)).length=0∨n<0 then 0 else (Q2i Z.S.l k (allL Z.S.l 1)).getD (n%((Q2i Z.S.l k (allL Z.S.l 1)).length:Int)).toNat 0):=rfl;clear hs ok Bb;generalize nthV Z.S.l k n=nv at *
 generalize hT:allL Z.S.l 1=T at *
 go_enter func35,ntmps35;go_wp2_with fail;refine (B7.out _ (Below.refl _ _)).mono ?_;rintro rv w0 ⟨rfl,rfl⟩;go_wp2_with fail;refine (IL.out _ (Below.refl _ _)).mono ?_;intro rv w1 Du;obtain⟨a0,Mq,rfl,Av,Jg⟩:=Du.shape;have B4:=Q0a Av;have JB:=Q0a Jg;clear Du Av Jg IL;go_wp2_with fail
 go_loopg [7,9] T.length (fun gk ov iv wr=>∃j:Nat,iv=.int .i64 j/\j+gk=T.length/\OutH w1 wr ov (Q2i Z.S.l k (T.take j)))
 case atStart=>exact⟨0,rfl,J5e _,OutH.nil w1⟩
 case round =>
  obtain⟨j,rfl,AH,Au⟩:=hrel;have HO:=Q0a Au;have B6:=Q0a AH;clear Au;by_cases Ab:j<T.length
  ·obtain⟨y,hy⟩:∃y,T[j]?=some y:=⟨_,J4R Ab⟩
   obtain⟨g0,rfl,NJ,DE,Al⟩:=(JB.out.below HO.out.2).at' j y hy;obtain⟨a,b,c,er,Cu,Re⟩:=J9.out y (J4O hy);have DA:Below w.heap.size w wr:=B4.out.trans (HO.out.2.mono B4.out.size);have Bm:Hid (Q2i Z.S.l k (T.take (j+1))=Q2i Z.S.l k (T.take j)++if isK Z.S.l k y=true then [y] else []):=by
    rw [J4w,hy];exact Z3R _ _ _ _
   have HY:=Q0a hy;have Kf:Hid (∀W,Below wr.heap.size wr W->Calls prog 49 #[.pointer (some ⟨Z.S.c,0,none⟩),.int .u32 y,.int .i64 k] W (Told W (.tuple #[.agg #[.int .i64 a,.int .i64 b,.int .i64 c],.int .i64 er]))):=fun W hb=>Re W (DA.trans (hb.mono DA.size))
   have My:Hid (∀W,Below wr.heap.size wr W->Calls prog 26 #[.pointer (some ⟨Z.s,0,none⟩)] W fun r w'=>r=.returned (.pointer (some ⟨Z.S.c,0,none⟩))/\W=w'):=fun W hb=>B7.out W (DA.trans (hb.mono DA.size))
   have G0:Hid (∀W,Below wr.heap.size wr W->W.cell? ⟨g0,j,none⟩=some (.int .u32 y)):=fun W hb=>(World.cell?_of_block (w:=wr) (hb.block g0 DE)).trans Al
   have O2:Hid (∀W,Below wr.heap.size wr W->OutH w1 W u7 (Q2i Z.S.l k (T.take j))):=fun W hb=>HO.out.below hb
   have ME:(Q2i Z.S.l k (T.take j)).length<=16777216:=by
    have h1:=Q9T Z.S.l k (T.take j);rw [J4T] at h1;have:=KQ.out;omega
   have EE:=Q0a ME;have NN:=Q0a Cu;have Er:Hid (∀W,Below wr.heap.size wr W->∀o,Below wr.heap.size wr (W.alloc o)):=fun W hb o=>hb.alloc hb.size o
   have HD:Hid (Below wr.heap.size wr wr.drew):=(Below.refl _ _).drew;have FJ:(j:Int)<256:=by have:=KQ.out;omega
   have Bs:(0:Int)<=(j:Int):=by omega
   clear hy AH Cu Re DA HO B7 J9 NJ DE ME;go_upto_region 6 with fail
   go_cut [11] from 22 to 31 (fun nn wc=>nn=.int .i64 er/\Below wr.heap.size wr wc)
   case first =>
    clear Bm O2 EE NN HV JB;have cD:wr.drew.cell? ⟨g0,j,none⟩=some (.int .u32 y):=Al;have OI:Hid (Calls prog 49 #[.pointer (some ⟨Z.S.c,0,none⟩),.int .u32 y,.int .i64 k] (wr.alloc (.cells #[.int .i64 0,.int .i64 0,.int .i64 0] 54)).drew fun r w4=>r=.returned (.tuple #[.agg #[.int .i64 a,.int .i64 b,.int .i64 c],.int .i64 er])/\Below wr.heap.size wr w4/\Cells w4 wr.heap.size 54 [.int .i64 0,.int .i64 0,.int .i64 0]):=
     (Kf.out _ (Er.out _ (Below.refl _ _).drew _)).mono fun r w4 h=>⟨h.1,((Er.out _ (Below.refl _ _).drew _)).trans (h.2.mono (by simp)),(Cells.new wr 54 [.int .i64 0,.int .i64 0,.int .i64 0]).same (h.2.block _ (by simp))⟩
    go_region_held3 (fun w'=>w'.cell? ⟨g0,j,none⟩=some (.int .u32 y))
     (first|exact Al|exact cD|exact G0.out _ (Er.out _ HD.out _)|exact G0.out _ Ay.out|exact G0.out _ (Er.out _ Ay.out _)|exact G0.out _ (Ay.out.setCell (by simp) _)|exact G0.out _ ((Ay.out.setCell (by simp) _).setCell (by simp) _)|exact G0.out _ (((Ay.out.setCell (by simp) _).setCell (by simp) _).setCell (by simp) _))
     (first|(go_at_call 26;refine (My.out _ (by first|exact HD.out|exact Er.out _ HD.out _)).mono ?_;rintro rv w' ⟨rfl,rfl⟩)|(go_at_call 49;refine OI.out.mono ?_;rintro rv w4 ⟨rfl,AC,C0⟩;have Ay:=Q0a AC;have z0:=C0.cell 0 _ rfl;have z1:=C0.cell 1 _ rfl;have z2:=C0.cell 2 _ rfl;have y0:=C0.free 0;have y1:=C0.free 1;have y2:=C0.free 2;have OU:=Q0a C0;clear AC C0)|(go_at_call 49;refine (Kf.out _ (by first|exact HD.out|exact Er.out _ HD.out _)).mono ?_;rintro rv w4 ⟨rfl,AC⟩;have Ay:=Q0a (HD.out.trans (AC.mono HD.out.size));clear AC))
    all_goals (go_wp2_with fail;go_meet;first|exact⟨rfl,Er.out _ Ay.out _⟩|exact⟨rfl,((Ay.out.setCell (by simp) _).setCell (by simp) _).setCell (by simp) _⟩|exact⟨rfl,Ay.out⟩)
   obtain⟨rfl,IP⟩:=hcut;have Je:=Q0a IP;have Pf:=Q0a (O2.out wc IP);have Dy:=G0.out wc IP;clear IP Al G0 O2 Kf My Er HD;have Sq:=NN.out;cases EN:isK Z.S.l k y with
   | true =>
    rw [EN] at Sq;have BP:=Bm.out;rw [EN,if_pos rfl] at BP;obtain⟨v',w',Ba,M2⟩:=Pf.out.app EE.out y 51;have Tg:=Q0a M2;have JJ:=Q0a BP;clear M2 BP Bm NN Pf;go_wp2_with (at_builtin;refine Lib.wpList_append_run _ rfl _ _ _ _ rfl _ _ rfl rfl _ _ Ba ?_);go_roundg (T.length-(j+1))
    case measure=>have:=B6.out;omega
    case rel=>exact⟨j+1,by go_num,by omega,by rw [JJ.out];exact Tg.out⟩
   | false =>
    rw [EN] at Sq;have BP:=Bm.out;rw [EN,if_neg (by decide),J4G] at BP;have JJ:=Q0a BP;clear BP Bm NN;go_wp2_with fail;go_roundg (T.length-(j+1))
    case measure=>have:=B6.out;omega
    case rel=>exact⟨j+1,by go_num,by omega,by rw [JJ.out];exact Pf.out⟩
  ·have Fs:j=T.length:=by have:=B6.out;omega
   have Au:=HO.out;rw [Fs,J6J] at Au;have C5:Hid (Below w.heap.size w wr):=B4.out.trans (Au.2.mono B4.out.size);have Nn:Hid ((Q2i Z.S.l k T).length<=256):=J2z (Q9T _ _ _) KQ.out;clear HO B7 J9 JB B4 AH;generalize Q2i Z.S.l k T=L at *
   obtain⟨aL,cL,rfl⟩:=Au.shape;have HO:=Q0a Au;clear Au;by_cases h0:L.length=0
   ·have hv:nv=0:=by rw [HV.out,if_pos (.inl h0)]
    subst hv;have hz:((L.length:Nat):Int)=0:=by omega
    have Be:(((L.length:Nat):Int)==0)=true:=by rw [hz];rfl
    clear HV;go_wp2_with fail
    first|exact⟨rfl,C5.out⟩|(go_ret;exact⟨rfl,C5.out⟩)
   ·have Be:(((L.length:Nat):Int)==0)=false:=by rw [beq_eq_false_iff_ne];omega
    have VB:((L.length:Nat):Int)≠0:=by omega
    have Vu:(0:Int)<((L.length:Nat):Int):=by omega
    by_cases CQ:n<0
    ·have hv:nv=0:=by rw [HV.out,if_pos (.inr CQ)]
     subst hv;have hd:decide (n<0)=true:=decide_eq_true CQ;clear HV;go_wp2_with fail
     first|exact⟨rfl,C5.out⟩|(go_ret;exact⟨rfl,C5.out⟩)
    ·have hd:decide (n<0)=false:=decide_eq_false CQ;have h1:=Int.emod_nonneg n (b:=(L.length:Int)) (by omega);have h2:=Int.emod_lt_of_pos n (b:=(L.length:Int)) (by omega);have Su:n.tmod (L.length:Int)=(((n%(L.length:Int)).toNat:Nat):Int):=by
      rw [J4r (by omega),Int.toNat_of_nonneg h1]
     have hv:nv=L.getD (n%(L.length:Int)).toNat 0:=by rw [HV.out,if_neg (by omega)]
     have hi:(n%(L.length:Int)).toNat<L.length:=by omega
     generalize (n%(L.length:Int)).toNat=i at *
     rw [J7d,J4R hi,J5s] at hv;have RC:L[i]?=some nv:=by rw [hv];exact J4R hi
     clear hv HV h1 h2;have Aa:L≠[]:=fun e=>h0 (by rw [e];rfl)
     obtain⟨gL,VI,eL⟩:=HO.out.shape1 Aa;cases eL;obtain⟨AJ,-,-⟩:=HO.out.cellAt RC;have De:IntKind.i64.wrap ((i:Nat):Int)=(i:Int):=Go.IntWalk.i64_in _ (by have:=Nn.out;omega);have PJ:(i:Int)<(L.length:Int):=by omega
     have G3:(0:Int)<=(i:Int):=by omega
     clear RC Aa HO;go_wp2_with fail
     first|exact⟨rfl,C5.out⟩|(go_ret;exact⟨rfl,C5.out⟩)
structure Able (S:CO) (f:Pl) (e:En Fa) (n:Nat) (lim:Int) (i:Nat) (p:Pl):Prop where
 kind:f.kind=1
 may:n=8∨1<=n/\n<=5
 acc:find S.P.q.E f.own=some e
 cost:((costK n:Nat):Int)<=Q0x e
 page:S.P.d.ps.length<2 ^ S.P.d.top
 place:Fst S.l i p
 lim:n=1->0<=lim/\lim<=Q0x e-64/\S.P.q.E.length<32
theorem MakeR.able {S:CO} {fr:List Nat} {h:Nat} {n:Nat} {lim:Int} {w w':World} {r:Ending} (m:MakeR S fr h (n:Int) lim w r w') {f:Pl} (hf:pget S.l 1 h=some f) {e:En Fa} {i:Nat} {p:Pl} (a:Able S f e n lim i p) :
  ∃b x P' fr',r=two (nm i p) 0/\MadeOk S fr f e n b lim x i p P' fr'/\Step S.hl (S.made f n b x i p P').hl w w':=by
 rcases m with ⟨h0,_⟩|⟨f',Mg,hm⟩
 ·rw [hf] at h0;cases h0
 ·rw [hf] at Mg;cases Mg;rcases hm with ⟨h0,_⟩|⟨_,hc,_⟩|⟨n',e',hn,_,_,_,he,hk⟩
  ·exact absurd a.kind h0
  ·exfalso;have:=a.may;rcases hc with h1|⟨h1,h2⟩
   ·apply h1;omega
   ·have:=a.lim (by omega);omega
  ·have:n'=n:=by omega
   subst this;rw [a.acc] at he;cases he;rcases hk with ⟨h0,_⟩|⟨_,h0,_⟩|⟨_,er,P',hc,_⟩|⟨i',p',b,x,P',fr',h1,h2,h3,_,rfl,hm,st⟩
   ·have:=a.cost;omega
   ·have:=h0.len;have:=a.page;omega
   ·exfalso;obtain⟨p1,p2,p3⟩:=a.place;rcases hc with ⟨_,h1|⟨h1,h2⟩⟩|⟨_,h1,h2⟩
    ·exact h1 p (J4O p1) p2
    ·have:=a.lim h1;omega
    ·have:=a.lim h1;omega
   ·obtain⟨p1,p2,p3⟩:=a.place;have hi:i'=i:=by
     rcases J5B i' i with h|h|h
     ·exact absurd h2 (p3 i' p' h h1)
     ·exact h
     ·exact absurd p2 (h3 i p h p1)
    subst hi;rw [p1] at h1;cases h1;exact⟨b,x,P',fr',rfl,hm,st⟩
structure FO.New (q:FO):Prop where
 N:q.N=[]
 next:q.next=0
 ok:q.Ok
theorem Z9d {w:World} {H:HL} (h:Sep w H):Calls prog 155 #[] w fun r w'=>∃q:FO,r=.returned (.pointer (some ⟨q.f,0,none⟩))/\q.New/\Step H (q.hl++H) w w':=by
 have s1:=h.newMap;have s2:=s1.sep.newMap;have s3:=s2.sep.new 283 [.map (some w.heap.size),.map (some (w.alloc (.map #[] 0)).heap.size),.int .i64 0];have HQ:Hid (∃q:FO,q.f=((w.alloc (.map #[] 0)).alloc (.map #[] 0)).heap.size/\q.New/\Step H (q.hl++H) w (((w.alloc (.map #[] 0)).alloc (.map #[] 0)).alloc (.cells #[.map (some w.heap.size),.map (some (w.alloc (.map #[] 0)).heap.size),.int .i64 0] 283))):=by
  refine⟨⟨((w.alloc (.map #[] 0)).alloc (.map #[] 0)).heap.size,w.heap.size,(w.alloc (.map #[] 0)).heap.size,[],0,fun _=>none⟩,rfl,⟨rfl,rfl,⟨⟨List.Pairwise.nil,List.Pairwise.nil,J6E _,fun e h=>(by cases h),fun e h=>(by cases h),fun e h=>(by cases h),fun e h=>(by cases h),fun e h=>(by cases h),fun e h=>(by cases h)⟩,(by show (0:Int)<1099511627776;decide),fun e h=>(by cases h),J4C _⟩⟩,?_⟩;refine ((s1.trans s2).trans s3).perm (J5T _) ?_;refine Q1e fun a=>?_
  simp only [FO.hl,FO.head,hc_append,hc_cons,kvs,okv,isMI,isMS,J5g,J6C];simp only [J1y];omega
 clear h s1 s2 s3;have Bi:(w.alloc (.map #[] 0)).heap.size=w.heap.size+1:=by simp
 have Be:((w.alloc (.map #[] 0)).alloc (.map #[] 0)).heap.size=w.heap.size+1+1:=by simp
 rw [Bi,Be] at HQ;have KT:=@run_makeMap prog;go_enter func155,ntmps155;go_wp2_with fail;obtain⟨q,e,h1,h2⟩:=HQ.out;have e2:Ending.returned (.pointer (some ⟨w.heap.size+1+1,0,none⟩))=Ending.returned (.pointer (some ⟨q.f,0,none⟩)):=by rw [e]
 first|exact⟨q,e2,h1,h2⟩|(go_ret;exact⟨q,e2,h1,h2⟩)
structure SP.New (Z:SP) (S:CO) (tb:Nat->TB):Prop where
 S:Z.S=S
 tb:Z.tb=tb
 F:Z.F.New
theorem Z2d {w:World} {S:CO} (h:Sep w S.hl) (tb:Nat->TB):Calls prog 80 #[.pointer (some ⟨S.c,0,none⟩)] w fun r w'=>∃Z:SP,r=.returned (.pointer (some ⟨Z.s,0,none⟩))/\Z.New S tb/\Step S.hl Z.hl w w':=by
 have kf:=Z9d h;have HQ:Hid (∀(q:FO) (w1:World),q.New->Step S.hl (q.hl++S.hl) w w1->∃Z:SP,Z.s=w1.heap.size/\Z.New S tb/\Step S.hl Z.hl w (w1.alloc (.cells #[.pointer (some ⟨S.c,0,none⟩),.pointer (some ⟨q.f,0,none⟩)] 183))):=fun q w1 hq st=>by
  refine⟨⟨w1.heap.size,S,tb,q⟩,rfl,⟨rfl,rfl,hq⟩,?_⟩;refine (st.trans (st.sep.new 183 [ptr S.c,ptr q.f])).perm (J5T _) ?_;refine Q1e fun a=>?_
  simp only [SP.hl,SP.head,hc_append,hc_cons];omega
 clear h;go_enter func80,ntmps80;go_wp2_with fail;refine kf.mono ?_;rintro r w1 ⟨q,rfl,hq,st⟩;obtain⟨Z,e,h1,h2⟩:=HQ.out q w1 hq st;have HZ:Hid (Z.New S tb/\Step S.hl Z.hl w (w1.alloc (.cells #[.pointer (some ⟨S.c,0,none⟩),.pointer (some ⟨q.f,0,none⟩)] 183))):=⟨h1,h2⟩
 clear hq st h1 h2 HQ kf;go_wp2_with fail;have e2:Ending.returned (.pointer (some ⟨w1.heap.size,0,none⟩))=Ending.returned (.pointer (some ⟨Z.s,0,none⟩)):=by rw [e]
 first|exact⟨Z,e2,HZ.out.1,HZ.out.2⟩|(go_ret;exact⟨Z,e2,HZ.out.1,HZ.out.2⟩)
theorem SP.New.ok {Z:SP} {S:CO} {tb:Nat->TB} (h:Z.New S tb) {fr:List Nat} {N K:Nat} (ok:S.Ok fr N K) (t:TPI S tb) (hn:∀i,i<256->(tb i).Nil):Z.Ok fr N K 0:=by
 have AS:∀x s,Q0f S.l tb x s=none:=fun x s=>by
  unfold Q0f;split
  ·split
   ·rename_i hc;exact (hn _ (J5G _ (by omega))).2 s hc.2
   ·rfl
  ·rfl
 refine⟨by rw [h.S];exact ok,by rw [h.S,h.tb];exact t,?_,h.F.ok,by rw [h.F.next];exact J6E _⟩;rw [h.S,h.tb,h.F.N];exact⟨fun x s e he=>(by rw [AS] at he;cases he),fun x s e he=>(by rw [AS] at he;cases he),fun n hn=>(by cases hn),fun n hn=>by cases hn⟩
theorem TPI.emp {S:CO} {fr:List Nat} {N K:Nat} (ok:S.Ok fr N K) (h2:∀(i:Nat) (p:Pl),S.l[i]?=some p->¬(p.st=1/\p.kind=2)) (h7:S.P.usedOf 7=[]) (h6:S.P.usedOf 6=[]) (hx:∀id,S.xc id=0):TPI S fun _=>TB.emp:=by
 have l0:Q3e (fun _=>TB.emp)=[]:=by
  unfold Q3e;simp only [TB.emp_nil.lists.1];generalize List.range 256=L
  induction L with
  | nil=>rfl
  | cons a r ih=>rw [J2W,ih];rfl
 have n0:Q4c (fun _=>TB.emp)=[]:=by
  unfold Q4c;simp only [TB.emp_nil.lists.2.1];generalize List.range 256=L
  induction L with
  | nil=>rfl
  | cons a r ih=>rw [J2W,ih];rfl
 refine⟨fun i p hi h1 hk=>absurd ⟨h1,hk⟩ (h2 i p hi),fun i _=>TB.emp_nil.full,fun i p _ _=>TB.emp_nil,by rw [l0,h7],by rw [n0,h6],fun id=>?_⟩;rw [hx];unfold xcOf;have:∀i,xcP (fun _=>TB.emp) id i S.l[i]?=0:=fun i=>by
  unfold xcP;split
  ·split
   ·exact TB.emp_nil.lists.2.2
   ·rfl
  ·rfl
 simp only [this];generalize List.range 256=L
 induction L with
 | nil=>rfl
 | cons a r ih=>rw [J2B,J6m];omega
theorem Z9e (Q:List (Nat×Nat)) (n:Nat):(Q.filter fun q=>decide (q.1<n+1)).length=(Q.filter fun q=>decide (q.1<n)).length+(Q.filter fun q=>decide (q.1=n)).length:=by
 induction Q with
 | nil=>rfl
 | cons q r ih =>
  simp only [J6L];by_cases h1:q.1<n
  ·rw [if_pos (by simp;omega),if_pos (by simpa using h1),if_neg (by simp;omega)];simp only [J3k];omega
  ·by_cases h2:q.1=n
   ·rw [if_pos (by simp;omega),if_neg (by simpa using h1),if_pos (by simpa using h2)];simp only [J3k];omega
   ·rw [if_neg (by simp;omega),if_neg (by simpa using h1),if_neg (by simpa using h2)];exact ih
theorem Q6E {α:Type} (f:Nat->Option α) (m i:Nat) (Q:List (Nat×Nat)) (h:∀s,s<m->f s≠none->(i,s)∈Q):((List.range m).filterMap f).length<=(Q.filter fun q=>decide (q.1=i)).length:=by
 have e:((List.range m).filterMap f).length=(((List.range m).filter fun s=>(f s).isSome).map fun s=>(i,s)).length:=by
  rw [J4j];generalize List.range m=L
  induction L with
  | nil=>rfl
  | cons a r ih =>
   rw [J2L,J6L];cases f a with
   | none=>simpa using ih
   | some b=>simp [ih]
 rw [e];have AG:(((List.range m).filter fun s=>(f s).isSome).map fun s=>(i,s)).Nodup:=by
  refine J3e.2 ((J6u.filter _).imp fun Aa he=>Aa ?_);exact (Prod.mk.inj he).2
 refine AG.length_le_of_subset fun q hq=>?_
 obtain⟨s,hs,rfl⟩:=J2E.1 hq;obtain⟨h1,h2⟩:=J2T.1 hs;refine J2T.2 ⟨h s (J2P.1 h1) (fun h0=>by rw [h0] at h2;cases h2),by simp⟩
theorem Q5g (f:Nat->List Nat) (Q:List (Nat×Nat)):∀n,(∀i,i<n->(f i).length<=(Q.filter fun q=>decide (q.1=i)).length)->((List.range n).flatMap f).length<=(Q.filter fun q=>decide (q.1<n)).length
 | 0,_=>by simp
 | n+1,h=>by
  rw [J2J,J3h,J3j,Z9e];have h1:=Q5g f Q n fun i hi=>h i (by omega)
  have h2:=h n (by omega);simp only [J2W,J6C,J4G];omega
theorem Q9U {tb:Nat->TB} (Q:List (Nat×Nat)) (h:∀i s,i<256->s<256->(tb i).en s≠none->(i,s)∈Q):(Q4c tb).length<=Q.length:=by
 refine J2z (Q5g _ Q 256 fun i hi=>?_) (J4P _ _);refine Q6E _ 256 i Q fun s hs h0=>h i s hi hs fun e=>h0 ?_
 rw [e];rfl
theorem Q9V {tb:Nat->TB} (hf:∀i,i<256->(tb i).Full) (Q:List (Nat×Nat)) (h:∀i s,i<256->s<256->(tb i).en s≠none->(i,s/16)∈Q):(Q3e tb).length<=Q.length:=by
 refine J2z (Q5g _ Q 256 fun i hi=>?_) (J4P _ _);refine Q6E _ 16 i Q fun k hk h0=>?_
 obtain⟨s,h1,h2,h3⟩:=hf i hi k hk fun e=>h0 (by rw [if_pos e])
 rw [<- h2];exact h i s hi h1 h3
theorem Z9G (l:List Pl) (tb:Nat->TB) (id:Int):∀n,((List.range n).map fun i=>xcP tb id i l[i]?).sum<=256*(((List.range n).flatMap fun i=>(tb i).lvs).length:Int)+48*(((List.range n).flatMap fun i=>(tb i).nds).length:Int)
 | 0=>by simp
 | n+1=>by
  have ih:=Z9G l tb id n;rw [J2J,J6d,J6o,J3h,J3h,J3j,J3j];simp only [J2B,J5g,J6m,List.sum_nil,J2W,J6C,J4G];have h1:xcP tb id n l[n]?<=(tb n).cost:=by
   have hc:=(tb n).cost_nn;unfold xcP;split
   ·split
    ·omega
    ·exact hc
   ·exact hc
  unfold TB.cost at h1;omega
theorem Z6R (l:List Pl) (tb:Nat->TB) (id:Int):xcOf l tb id<=256*((Q3e tb).length:Int)+48*((Q4c tb).length:Int):=Z9G l tb id 256
theorem Z9f {P:PL} {fr:List Nat} (ok:P.Ok fr):P.d.ps.length<=fr.length+((List.range 8).map fun k=>(P.usedOf k).length).sum:=by
 rw [<- ok.pages.length_eq,J3j];have AG:=(ok.pages.nodup_iff).2 ok.d.nd;have DI:P.pages.Nodup:=(J3t.1 AG).2.1;have h1:P.pages.length<=(((List.range 8).flatMap P.usedOf).map fun a=>a/1024).length:=by
  refine DI.length_le_of_subset fun g hg=>?_
  obtain⟨k,a,ha,rfl⟩:=(Q4Y ok g).1 hg;have:=Q1W ok ha;exact J2E.2 ⟨a,J2Z.2 ⟨k,J2P.2 (by omega),ha⟩,rfl⟩
 rw [J4j,List.length_flatMap] at h1;omega
theorem Q9W:∀l:List Pl,(Q2b l 8).length+(Q2b l 1).length+(Q2b l 2).length+(Q2b l 3).length+(Q2b l 4).length+(Q2b l 5).length<=(l.filter Pl.is).length
 | []=>by simp [Q2b]
 | p::r=>by
  have ih:=Q9W r;have step:∀k,(Q2b (p::r) k).length=(Q2b r k).length+if p.is=true/\p.kind=k then 1 else 0:=fun k=>by
   unfold Q2b;rw [J2L];by_cases h:p.is=true/\p.kind=k
   ·rw [if_pos h];have:atsF k p=some p.at_:=by unfold atsF;simp [h.1,h.2]
    rw [this];rfl
   ·rw [if_neg h];have:atsF k p=none:=by
     unfold atsF;rw [if_neg]
     simpa using h
    rw [this];rfl
  rw [step,step,step,step,step,step,J6L];by_cases hi:p.is=true
  ·rw [if_pos hi,J3k];simp only [hi,true_and];by_cases h8:p.kind=8
   ·simp [h8];omega
   ·by_cases h1:p.kind=1
    ·simp [h1];omega
    ·by_cases h2:p.kind=2
     ·simp [h2];omega
     ·by_cases h3:p.kind=3
      ·simp [h3];omega
      ·by_cases h4:p.kind=4
       ·simp [h4];omega
       ·by_cases h5:p.kind=5
        ·simp [h5];omega
        ·simp [h8,h1,h2,h3,h4,h5];omega
  ·rw [if_neg hi];simp only [hi]
   simpa using ih
theorem Z3T {S:CO} {fr:List Nat} {N K:Nat} (ok:S.Ok fr N K):S.P.d.ps.length<=(S.l.filter Pl.is).length+(S.P.usedOf 7).length+(S.P.usedOf 6).length:=by
 have h1:=Z9f ok.inv.mem.pool;have h2:=Q9W S.l;have hf:(Q2b S.l 8).length=fr.length:=by rw [ok.inv.mem.frs.length_eq,J4j]
 have hk:∀k,1<=k->k<=5->(Q2b S.l k).length=(S.P.usedOf k).length:=fun k a b=>(ok.inv.mem.ats k a b).length_eq
 have h0:(S.P.usedOf 0).length=0:=by
  cases hu:S.P.usedOf 0 with
  | nil=>rfl
  | cons a r =>
   have:=Q1W ok.inv.mem.pool (k:=0) (a:=a) (by rw [hu];simp);omega
 have e:((List.range 8).map fun k=>(S.P.usedOf k).length).sum=(S.P.usedOf 0).length+((S.P.usedOf 1).length+((S.P.usedOf 2).length+((S.P.usedOf 3).length+((S.P.usedOf 4).length+((S.P.usedOf 5).length+((S.P.usedOf 6).length+((S.P.usedOf 7).length+0))))))):=rfl;have q1:=hk 1 (by omega) (by omega);have q2:=hk 2 (by omega) (by omega);have q3:=hk 3 (by omega) (by omega);have q4:=hk 4 (by omega) (by omega);have q5:=hk 5 (by omega) (by omega);omega
theorem J1T {Z:SP} {fr:List Nat} {N K:Nat} (ok:Z.S.Ok fr N K) (t:TPI Z.S Z.tb) {own:Int} {e:En Fa} (he:find Z.S.P.q.E own=some e) {i s:Nat} {er:Int} {o lv nd:Nat} (ho:(Z.S.l.filter Pl.is).length<=o) (hl:(Q3e Z.tb).length<=lv) (hn:(Q4c Z.tb).length<=nd) (hp:o+lv+nd+1<64)
  (hq:Q0v Z.S.l own+256*(lv:Int)+48*(nd:Int)+304<=e.q.limit-e.q.given):¬WhyL Z fr own i s er:=by
 have hc:=Z3T ok;have h7:=t.lvs.length_eq;have h6:=t.nds.length_eq;have Pi:=ok.inv.mem.pool.top;have UO:64<=2 ^ Z.S.P.d.top:=J2z (by decide:64<=2 ^ 6) (J3O (by omega) Pi);have Dt:=ok.inv.tre.charged own e he;have hx:=Z6R Z.S.l Z.tb own;rw [t.xc] at Dt;rintro (⟨_,e',AM,A5⟩|⟨_,Aq⟩|⟨a,P1,g,_,⟨_,e',AM,A5⟩|⟨_,Aq⟩⟩)
 ·rw [he] at AM;cases AM;unfold Q0x at A5;omega
 ·have:=Aq.page.len;omega
 ·obtain⟨e0,DB,_,hE⟩:=g.q;rw [he] at DB;cases DB;rw [hE] at AM;have hf:=Q0h he {e.q with charged:=e.q.charged+((Q0c 6:Nat):Int)};rw [show ({Z.S.P.q with E:=upd Z.S.P.q.E own {e.q with charged:=e.q.charged+((Q0c 6:Nat):Int)}}:QT).E=upd Z.S.P.q.E own {e.q with charged:=e.q.charged+((Q0c 6:Nat):Int)} from rfl,hf] at AM;cases AM;unfold Q0x at A5;simp only [Q5a] at A5;omega
 ·have h1:=Aq.page.len;have h2:=(g.gotM ok.inv.mem.pool).few;rw [g.top] at h1;omega
def Z9g (N:List (En Nd)) (x z:Int):Value:=match J1K N x z with
 | none=>.tuple #[.agg #[.int .i64 0,.int .i64 0],.bool false]
 | some p=>.tuple #[.agg #[.int .i64 p.1,.int .i64 p.2],.bool true]
def parV (N:List (En Nd)) (id:Int):Int:=match find N id with
 | none=>0
 | some n=>n.q.par
theorem Z0X {w:World} {q:FO} (h:Sep w q.hl) (id:Int):Calls prog 160 #[.pointer (some ⟨q.f,0,none⟩),.int .i64 id] w fun r w'=>r=.returned (.int .i64 (parV q.N id))/\w=w':=by
 unfold parV;cases hf:find q.N id with
 | none=>exact Q9i h hf
 | some e=>exact Q9h h hf
theorem Z3U {w:World} {q:FO} (h:Sep w q.hl) (id:Int):∃(a b:Int) (c:Bool),((find q.N id=none/\a=0/\b=0/\c=false)∨∃m,find q.N id=some m/\a=m.q.sp/\b=m.q.sl/\c=true)/\Calls prog 159 #[.pointer (some ⟨q.f,0,none⟩),.int .i64 id] w fun r w'=>r=.returned (.tuple #[.int .i64 a,.int .i64 b,.bool c])/\Below w.heap.size w w':=by
 cases hf:find q.N id with
 | none=>exact⟨0,0,false,.inl ⟨rfl,rfl,rfl,rfl⟩,(Q6o h hf).mono fun r w' ⟨h1,h2⟩=>⟨h1,h2 ▸ Below.refl _ _⟩⟩
 | some e=>exact⟨e.q.sp,e.q.sl,true,.inr ⟨e,rfl,rfl,rfl,rfl⟩,Q6p h hf⟩
theorem Z6S {w:World} {Z:SP} (hs:Sep w Z.hl) (ok:Z.F.Ok) {x z:Nat} (hx:x<4294967296) (hz:z<256) :
  Calls prog 82 #[.pointer (some ⟨Z.s,0,none⟩),.int .u32 x,.int .i64 z] w (Told w (Z9g Z.F.N (x:Int) (z:Int))):=by
 have b1:Below w.heap.size w (w.alloc (.cells #[.int .i64 0,.int .i64 0] 173)):=(Below.refl _ _).alloc (J2y _) _;have s1:=(hs.grown b1).sep;have c1:=SP.c1 s1;have PT:(w.alloc (.cells #[.int .i64 0,.int .i64 0] 173)).drew.cell? ⟨Z.s,1,none⟩=some (.pointer (some ⟨Z.F.f,0,none⟩)):=c1;have g1:(0:Int)<=(x:Int):=by omega
 have g2:(x:Int)<9223372036854775808:=by omega
 have g3:(0:Int)<=(z:Int):=by omega
 have g4:(z:Int)<9223372036854775808:=by omega
 have kf:=Q4M (SP.sF s1.drew) ok (sp:=(x:Int)) (sl:=(z:Int)) (Q3j (p:=((x:Int),(z:Int))) g1 g2 g3 g4);clear g1 g2 g3 g4;have kp:=Z0X (SP.sF s1.drew) (ownN Z.F.N (x:Int) (z:Int));obtain⟨a,b,c,As,ko⟩:=Z3U (SP.sF s1.drew) (parV Z.F.N (ownN Z.F.N (x:Int) (z:Int)));have hv:Z9g Z.F.N (x:Int) (z:Int)=.tuple #[.agg #[.int .i64 a,.int .i64 b],.bool c]:=by
  unfold Z9g J1K;unfold parV at As;cases hf:find Z.F.N (ownN Z.F.N (x:Int) (z:Int)) with
  | none =>
   rw [hf] at As;simp only at As;rcases As with ⟨_,rfl,rfl,rfl⟩|⟨m,hm,_⟩
   ·rfl
   ·rw [ok.n.zero] at hm;cases hm
  | some n =>
   rw [hf] at As;simp only at As ⊢;rcases As with ⟨h0,rfl,rfl,rfl⟩|⟨m,hm,rfl,rfl,rfl⟩
   ·rw [h0];rfl
   ·rw [hm];rfl
 rw [hv];have HO:Hid (∀w1,Below (w.alloc (.cells #[.int .i64 0,.int .i64 0] 173)).drew.heap.size (w.alloc (.cells #[.int .i64 0,.int .i64 0] 173)).drew w1->w1.cell? ⟨Z.s,1,none⟩=some (.pointer (some ⟨Z.F.f,0,none⟩))/\Cells w1 w.heap.size 173 [.int .i64 0,.int .i64 0]/\∀u v,Below w.heap.size w ((w1.setCell ⟨w.heap.size,0,none⟩ u).setCell ⟨w.heap.size,1,none⟩ v)):=fun w1 hb=>by
  have Ak:Below (w.alloc (.cells #[.int .i64 0,.int .i64 0] 173)).heap.size (w.alloc (.cells #[.int .i64 0,.int .i64 0] 173)) w1:=((Below.refl _ _).drew).trans hb;have La:Below w.heap.size w w1:=Q0e Ak;exact⟨SP.c1 (hs.grown La).sep,(Cells.new w 173 [.int .i64 0,.int .i64 0]).same (Ak.block w.heap.size (by simp)),fun u v=>(La.setCell (J2y _) _).setCell (J2y _) _⟩
 generalize parV Z.F.N (ownN Z.F.N (x:Int) (z:Int))=pid at *
 generalize ownN Z.F.N (x:Int) (z:Int)=oid at *
 have Cl:(0:Int)<=(x:Int):=by omega
 have Du:(x:Int)<4294967296:=by omega
 have LT:IntKind.i64.wrap (x:Int)=(x:Int):=Go.IntWalk.i64_in _ (by omega);clear hs ok hx hz As hv b1 s1;go_enter func82,ntmps82;go_wp2_with fail
 go_region_held3 (fun w'=>w'.cell? ⟨Z.s,1,none⟩=some (.pointer (some ⟨Z.F.f,0,none⟩))) (first|exact c1|exact PT|exact Al)
  (first|(go_at_call 161;refine kf.mono ?_;rintro r w' ⟨rfl,rfl⟩)|(go_at_call 160;refine kp.mono ?_;rintro r w' ⟨rfl,rfl⟩)|(go_at_call 159;refine ko.mono ?_;rintro r w1 ⟨rfl,hb⟩;obtain⟨Al,Ai,hz⟩:=HO.out w1 hb;have HZ:=Q0a hz;have e0:=Ai.cell 0 _ rfl;have e1:=Ai.cell 1 _ rfl;have f0:=Ai.free 0;have f1:=Ai.free 1;have Ab:=Ai.lt;clear hz Ai hb HO))
 go_wp2_with fail;refine bodyPost_ret (v:=.tuple #[.agg #[.int .i64 a,.int .i64 b],.bool c]) (by simp [results,results82,go_sem,e0,e1]) rfl ⟨rfl,HZ.out _ _⟩
structure MkS (S:CO) (per:Nat) (limit ch:Int) (n N:Nat) (l:List Pl):Prop where
 ok:S.Ok [] N 0
 tpi:TPI S fun _=>TB.emp
 ts:S.ts=[]
 now:S.now=0
 per:S.period=per
 top:S.P.d.top=6
 ps:S.P.d.ps.length<=n
 q:∃b,S.P.q.E=[⟨0,b,⟨limit,ch,0,-1,0⟩⟩]
 l:S.l=l
def MkQ (c:Nat) (per:Nat) (limit ch:Int) (n N:Nat) (L:List Pl->Prop) (w0 wr:World):Prop:=∃S l,S.c=c/\L l/\MkS S per limit ch n N l/\Step [] S.hl w0 wr
theorem Z6T {a:Nat} {i:Nat} {p:Pl} (h:(newL a)[i]?=some p):¬(p.st=1/\p.kind=2):=by
 rcases Q2A (J4O h) with rfl|rfl
 ·simp
 ·simp [noPl]
theorem Z2e {S:CO} {limit:Int} {per:Nat} (f:Q9R S 6 limit per):MkS S per limit 64 1 1 (newL 64):=by
 refine⟨f.ok,TPI.emp f.ok (fun i p hi=>by rw [f.l] at hi;exact Z6T hi) (f.high 7 (by omega)) (f.high 6 (by omega)) (fun id=>by rw [f.xc]),f.ts,f.now,f.period,f.top,by rw [f.ps];simp,f.q,f.l⟩
theorem J0V {w w1:World} {S:CO} {limit:Int} {per:Nat} (f:Q9R S 6 limit per) (st:Step [] (S.hl++[]) w w1):MkQ S.c per limit 64 1 1 (fun l=>l=newL 64) w w1:=
 ⟨S,newL 64,rfl,rfl,Z2e f,by simpa using st⟩
theorem J0W {S:CO} {per n N:Nat} {limit ch:Int} {l:List Pl} (m:MkS S per limit ch n N l) {k i:Nat} (hk:2<=k/\k<=5) (hc:((costK k:Nat):Int)<=limit-ch) (hn:n<64) (Bv:l[0]?=some ⟨1,64,0,1,0,0⟩) (hi:Fst l i (noPl 0)) {w w':World} {r:Ending} (h:MakeR S [] 0 ((k:Nat):Int) 0 w r w') :
  ∃a x S',r=two i 0/\S'.c=S.c/\MkS S' per limit (ch+((costK k:Nat):Int)) (n+1) (N+1) (l.set i ⟨k,a,0,1,0,x⟩)/\Step S.hl S'.hl w w':=by
 obtain⟨b,hq⟩:=m.q;have Hh:find S.P.q.E 0=some ⟨0,b,⟨limit,ch,0,-1,0⟩⟩:=by rw [hq];rfl
 have Cw:i<256:=by
  have:=(J2Q.1 hi.1).1;have h2:=m.ok.inv.len;rw [m.l] at h2;omega
 have DI:pget S.l 1 0=some ⟨1,64,0,1,0,0⟩:=by rw [m.l];exact pget_some.2 ⟨Bv,rfl,rfl⟩
 obtain⟨a,x,P',fr',rfl,hm,st⟩:=h.able (f:=⟨1,64,0,1,0,0⟩) DI (e:=⟨0,b,⟨limit,ch,0,-1,0⟩⟩) (i:=i) (p:=noPl 0) ⟨rfl,.inr ⟨by omega,hk.2⟩,Hh,by show _<=limit-(ch+0);omega,by rw [m.top];have:=m.ps;show _<64;omega,by rw [m.l];exact hi,fun h=>by omega⟩;have Nv:S.l[i]?=some (noPl 0):=by rw [m.l];exact hi.1
 have hf:=hm.fac (by omega);have DC:fr'=[]:=by
  have h1:=(hm.ok m.ok Nv).inv.mem.frs.length_eq;have e:Q2b (S.made ⟨1,64,0,1,0,0⟩ k a x i (noPl 0) P').l 8=Q2b S.l 8:=by
   have hp:=Q1C (l:=S.l) (i:=i) (p:=noPl 0) (q:=⟨k,a,0,1,(noPl 0).age,x⟩) (atsF 8) Nv (by unfold atsF;simp [Pl.is,noPl];omega);have h0:(Q2b S.l 8).length=0:=by rw [m.ok.inv.mem.frs.length_eq];rfl
   have h2:=hp.length_eq;have e1:Q2b S.l 8=[]:=J4z.1 h0;show (S.l.set i ⟨k,a,0,1,(noPl 0).age,x⟩).filterMap (atsF 8)=_;rw [e1];refine J4z.1 ?_;rw [h2];exact h0
  rw [e,m.ok.inv.mem.frs.length_eq] at h1;simp at h1;exact J4z.1 h1.symm
 subst DC;refine⟨a,x,_,by rw [show nm i (noPl 0)=i by unfold nm noPl;simp],?_,⟨hm.ok m.ok Nv,m.tpi.made m.ok hm Nv rfl,m.ts,m.now,m.per,by show P'.d.top=6;rw [hm.same.top,m.top],by show P'.d.ps.length<=_;have:=hm.few;have:=m.ps;omega,⟨b,?_⟩,?_⟩,st⟩
 ·rfl
 ·show P'.q.E=_;rw [hf,hq];rfl
 ·show S.l.set i _=_;rw [m.l];rfl
theorem Z0Y {c per n N:Nat} {limit ch:Int} {L:List Pl->Prop} {w0 wr:World} (h:MkQ c per limit ch n N L w0 wr) (k i:Nat) (hk:2<=k/\k<=5) (hc:((costK k:Nat):Int)<=limit-ch) (hn:n<64) (hN:N+1<1048576) (hL:∀l,L l->l[0]?=some ⟨1,64,0,1,0,0⟩/\Fst l i (noPl 0)) :
  Calls prog 79 #[.pointer (some ⟨c,0,none⟩),.int .u32 0,.int .i64 ((k:Nat):Int),.int .i64 0] wr fun r w'=>r=.returned (.tuple #[.int .u32 i,.int .i64 0])/\MkQ c per limit (ch+((costK k:Nat):Int)) (n+1) (N+1) (fun l'=>∃l a x,L l/\l'=l.set i ⟨k,a,0,1,0,x⟩) w0 w':=by
 obtain⟨S,l,rfl,hl,m,st⟩:=h;have:=Q6B st.sep m.ok (by omega) (x:=0) (by omega) ((k:Nat):Int) 0;refine this.mono ?_;intro r w' hr;obtain⟨a,x,S',rfl,ec,m',st'⟩:=J0W m hk hc hn (hL l hl).1 (hL l hl).2 hr;exact⟨rfl,S',_,ec,⟨l,a,x,hl,rfl⟩,m',st.trans st'⟩
structure MkZ (Z:SP) (per:Nat) (limit:Int) (N:Nat) (M:Int) (l:List Pl):Prop where
 ok:Z.Ok [] N 0 M
 ts:Z.S.ts=[]
 now:Z.S.now=0
 per:Z.S.period=per
 q:∃b ch,Z.S.P.q.E=[⟨0,b,⟨limit,ch,0,-1,0⟩⟩]
 l:Z.S.l=l
theorem J0X {Z:SP} {S:CO} {per n N:Nat} {limit ch:Int} {l:List Pl} (m:MkS S per limit ch n N l) (h:Z.New S fun _=>TB.emp):MkZ Z per limit N 0 l/\Z.av=⟨fun _ _=>none,[]⟩/\Z.F.next=0:=by
 obtain⟨b,hq⟩:=m.q;refine⟨⟨h.ok m.ok m.tpi fun i _=>TB.emp_nil,by rw [h.S];exact m.ts,by rw [h.S];exact m.now,by rw [h.S];exact m.per,⟨b,ch,by rw [h.S];exact hq⟩,by rw [h.S];exact m.l⟩,?_,h.F.next⟩;unfold SP.av avOf;rw [h.tb,h.F.N];congr 1;funext x s;unfold Q0f;split
 ·split
  ·rfl
  ·rfl
 ·rfl
theorem MkZ.same {Z Z':SP} {per N:Nat} {limit:Int} {M M':Int} {l:List Pl} (m:MkZ Z per limit N M l) (ok:Z'.Ok [] N 0 M') (s:SameN Z Z'):MkZ Z' per limit N M' l:=by
 obtain⟨b,ch,hq⟩:=m.q;refine⟨ok,by rw [s.alt.ts];exact m.ts,by rw [s.alt.now];exact m.now,by rw [s.alt.per];exact m.per,?_,by rw [s.alt.l];exact m.l⟩;obtain⟨e',AM,Co⟩:=s.alt.acc 0 ⟨0,b,⟨limit,ch,0,-1,0⟩⟩ (by rw [hq];rfl);have hid:=s.alt.ids;rw [hq] at hid;have h2:∃e,Z'.S.P.q.E=[e]:=by
  cases hE:Z'.S.P.q.E with
  | nil=>rw [hE] at hid;simp at hid
  | cons e r =>
   rw [hE] at hid;simp at hid;exact⟨e,by rw [hid.2]⟩
 obtain⟨e,hE⟩:=h2;rw [hE] at AM hid;have Km:e.id=0:=by simpa using hid
 have:e=e':=by
  unfold find at AM;rw [if_pos Km.symm] at AM;exact J3x AM
 subst this;refine⟨e.b,e.q.charged,?_⟩;rw [hE];obtain⟨i,b2,q⟩:=e;simp only at Km Co ⊢;subst Km;rw [Co]
theorem SP.Ok.entries {Z:SP} {fr:List Nat} {N K:Nat} {M:Int} (ok:Z.Ok fr N K M) {i s:Nat} (hi:i<256) (hs:s<256) (h:(Z.tb i).en s≠none):∃x c,x%256=i/\Z.av.en x s=some c:=by
 obtain⟨p,hp⟩:∃p,Z.S.l[i]?=some p:=⟨_,J4R (by rw [ok.core.inv.len];exact hi)⟩
 by_cases hk:p.st=1/\p.kind=2
 ·cases he:(Z.tb i).en s with
  | none=>exact absurd he h
  | some e =>
   refine⟨nm i p,(e.h,e.r),Q1m hi p,Q9l ?_⟩;rw [Q0g (p:=p) (pget_some.2 ⟨by rw [Q1m hi];exact hp,by rw [Q1m hi],hk.1⟩) hk.2 hs,Q1m hi];exact he
 ·exact absurd ((ok.tpi.nil i p hp hk).2 s hs) h
theorem MkZ.room {Z:SP} {per N:Nat} {limit:Int} {M:Int} {l:List Pl} (m:MkZ Z per limit N M l) (E Q:List (Nat×Nat)) (hE:∀x s c,Z.av.en x s=some c->(x%256,s)∈E) (hQ:∀x s,(x,s)∈E->(x,s/16)∈Q) {o:Nat} (ho:(l.filter Pl.is).length<=o) (hp:o+Q.length+E.length+1<64) {cs:Int} (Bt:Q0v l 0=cs)
  (hq:cs+256*(Q.length:Int)+48*(E.length:Int)+304<=limit) {i s:Nat} {er:Int}:¬WhyL Z [] 0 i s er:=by
 obtain⟨b,ch,hb⟩:=m.q;have Hh:find Z.S.P.q.E 0=some ⟨0,b,⟨limit,ch,0,-1,0⟩⟩:=by rw [hb];rfl
 have ent:∀i s,i<256->s<256->(Z.tb i).en s≠none->(i,s)∈E:=fun i s hi hs h=>by
  obtain⟨x,c,hx,hc⟩:=m.ok.entries hi hs h;rw [<- hx];exact hE x s c hc
 refine J1T m.ok.core m.ok.tpi Hh (o:=o) (lv:=Q.length) (nd:=E.length) (by rw [m.l];exact ho) (Q9V m.ok.tpi.full Q fun i s hi hs h=>hQ i s (ent i s hi hs h)) (Q9U E ent) hp ?_;rw [m.l,Bt];show _<=limit-0;omega
def Z3V (o:Option (Nat×Nat)):Value:=match o with
 | none=>.tuple #[.agg #[.int .u32 0,.int .i64 0],.int .i64 6]
 | some c=>.tuple #[.agg #[.int .u32 (c.1:Int),.int .i64 (c.2:Int)],.int .i64 0]
section
variable {Z:SP} {fr:List Nat} {N K:Nat} {M:Int} {w w':World}
theorem RootR.fine {x h:Nat} {z r er:Int} (R:RootR Z fr N K M x z h r w er w') {p q:Pl} (hp:pget Z.S.l 1 x=some p) (hk:p.kind=2) (hz:0<=z/\z<256) (hq:pget Z.S.l 1 h=some q) (hr:0<r/\r<=15) (hm:q.kind=8↔128<=z) (h0:Z.av.en x z.toNat=none) (hw:∀er,¬WhyL Z fr p.fac (x%256) z.toNat er) :
  er=0/\J0K Z fr N K M x z.toNat h r.toNat 0 w w':=by
 have Df:=av_none.1 h0;rcases R with ⟨_,he,_⟩|⟨s,rn,p',q',rfl,rfl,hs,_,_,B8,_,_,_,_,hc⟩
 ·exfalso;rcases he with ⟨h1,_⟩|⟨p',h1,he⟩
  ·rw [hp] at h1;cases h1
  ·rw [hp] at h1;cases h1;rcases he with ⟨h2,_⟩|⟨_,he⟩
   ·exact h2 hk
   ·rcases he with ⟨h3,_⟩|⟨_,he⟩
    ·exact h3 hz
    ·rcases he with ⟨h4,_⟩|⟨q',h4,he⟩
     ·rw [hq] at h4;cases h4
     ·rw [hq] at h4;cases h4;rcases he with ⟨h5,_⟩|⟨_,h5,_⟩
      ·exact h5 ⟨hr,hm⟩
      ·exact h5 Df
 ·rw [hp] at B8;cases B8;rw [J3F,J3F] at *
  rcases hc with ⟨h1,h2⟩|⟨_,h2,_⟩
  ·exact⟨h1,h2⟩
  ·exact absurd h2 (hw er)
theorem MoveR.fine {x y n:Nat} {A:Nat->Mv} {er:Int} (R:MoveR Z fr N K M x y n A w er w') {p1 p2:Pl} (AY:pget Z.S.l 1 x=some p1) (A0:p1.kind=2) (A4:pget Z.S.l 1 y=some p2) (A2:p2.kind=2) (An:AllFit Z.av.en x y n A) (hw:∀er,¬WhyM Z fr N K x y n p2.fac A er) :
  er=0/\MovedZ Z fr N K M x y n A w w':=by
 rcases R with ⟨Aa,he,_⟩|⟨q1,q2,h1,_,h2,_,_,hc⟩
 ·exfalso;rcases he with ⟨h1,_⟩|⟨q1,h1,he⟩
  ·rw [AY] at h1;cases h1
  ·rw [AY] at h1;cases h1;rcases he with ⟨h2,_⟩|⟨_,he⟩
   ·exact h2 A0
   ·rcases he with ⟨h3,_⟩|⟨q2,h3,he⟩
    ·rw [A4] at h3;cases h3
    ·rw [A4] at h3;cases h3;rcases he with ⟨h4,_⟩|⟨_,i,hi,_,hv⟩
     ·exact h4 A2
     ·have:=(Z1V (N:=Z.F.N) (tb:=Z.tb) AY A0 A4 A2 (m:=A i) (cl:=Q1u A i (A i))).2 (An i hi);unfold fitV at hv;rw [this] at hv;exact Aa hv.symm
 ·rw [AY] at h1;cases h1;rw [A4] at h2;cases h2;rcases hc with ⟨h1,h2⟩|⟨_,h2,_⟩
  ·exact⟨h1,h2⟩
  ·exact absurd h2 (hw er)
theorem Q7D {en:Nat->Nat->Option (Nat×Nat)} {x y:Nat} {m:Mv} (h:FitM en x y m):AllFit en x y 1 (fun _=>m):=fun i hi=>by
 obtain rfl:i=0:=by omega
 exact⟨h,rfl⟩
theorem Z2f {x y:Nat} {m:Mv} {own:Int} {er:Int} (h:WhyM Z fr N K x y 1 own (fun _=>m) er):WhyL Z fr own (y%256) m.dst.toNat er:=by
 obtain⟨k,S',t',hk,_,h0,hw⟩:=h;obtain⟨rfl,rfl⟩:=h0 (by omega);rw [Q1k] at hw;exact hw
theorem MovedZ.one {x y:Nat} {m:Mv} (h:MovedZ Z fr N K M x y 1 (fun _=>m) w w') (hg:m.g=false):∃(Z':SP) (c:Nat×Nat) (b:Nat),Z.av.en x m.src.toNat=some c/\Z'.av=⟨setA Z.av.en y m.dst.toNat (some (c.1,c.2&&&m.r.toNat)),addN Z.av.N (ownN Z.av.N (x:Int) m.src) (Z.F.next+1) b (y:Int) m.dst⟩/\Z'.Ok fr N K (M+1)/\SameN Z Z'/\Z'.F.next=Z.F.next+1/\Step Z.hl Z'.hl w w':=by
 obtain⟨a,Z',h1,h2,h3,h4,h5,h6⟩:=h;cases h1 with
 | succ k a0 c b h1 hc hn =>
  cases h1
  have e2:Z'.av=⟨setA Z.av.en y m.dst.toNat (some (c.1,c.2&&&m.r.toNat)),addN Z.av.N (ownN Z.av.N (x:Int) m.src) (Z.F.next+1) b (y:Int) m.dst⟩:=by
   generalize hz:Z'.av=az at h2;cases h2 with
   | skip k a' h2 _=>cases h2;simp
   | lift k a' a'' h2 FZ _=>rw [hg] at FZ;cases FZ
  exact⟨Z',c,b,hc,e2,h3,h4,h5,h6⟩
theorem MovedZ.grant {x y:Nat} {m:Mv} (h:MovedZ Z fr N K M x y 1 (fun _=>m) w w') (hg:m.g=true):∃(Z':SP) (c:Nat×Nat) (b:Nat) (a:AV),Z.av.en x m.src.toNat=some c/\Z.av.en y m.dst.toNat=none/\a=⟨setA Z.av.en y m.dst.toNat (some (c.1,c.2&&&m.r.toNat)),addN Z.av.N (ownN Z.av.N (x:Int) m.src) (Z.F.next+1) b (y:Int) m.dst⟩/\weak1 15 a (ownN a.N (x:Int) m.src)=(Z'.av,true)/\Z'.Ok fr N K (M+1)/\SameN Z Z'/\Z'.F.next=Z.F.next+1/\Step Z.hl Z'.hl w w':=by
 obtain⟨a,Z',h1,h2,h3,h4,h5,h6⟩:=h;cases h1 with
 | succ k a0 c b h1 hc hn =>
  cases h1
  refine⟨Z',c,b,⟨setA Z.av.en y m.dst.toNat (some (c.1,c.2&&&m.r.toNat)),addN Z.av.N (ownN Z.av.N (x:Int) m.src) (Z.F.next+1) b (y:Int) m.dst⟩,hc,hn,rfl,?_,h3,h4,h5,h6⟩;generalize hz:Z'.av=az at h2;cases h2 with
  | skip k a' h2 FZ=>rw [hg] at FZ;cases FZ
  | lift k a' a'' h2 FZ hw =>
   cases h2
   simpa using hw
theorem RevR.fine {x:Nat} {z mask:Int} {self:Bool} {r:Ending} (R:RevR Z fr N K M x z mask self w r w') {p:Pl} (hp:pget Z.S.l 1 x=some p) (hk:p.kind=2) (hz:0<=z/\z<256) (hm:0<mask/\mask<=15) {c:Nat×Nat} (hc:Z.av.en x z.toNat=some c) :
  ∃n∈Z.F.N,n.q.sp=(x:Int)/\n.q.sl=z/\r=.returned (.tuple #[.int .i64 ((Q0N mask.toNat Z.av (revL Z.F n.id self)).2:Nat),.int .i64 0])/\∃Z',Z'.Ok fr N K M/\Z'.av=(Q0N mask.toNat Z.av (revL Z.F n.id self)).1/\SameZ Z Z'/\Step Z.hl Z'.hl w w':=by
 obtain⟨e,he,_⟩:=Q3k hc;rcases R with ⟨er,_,_,hc⟩|⟨s,m,n,en,rfl,rfl,_,_,_,_,hn,h1,h2,hr,hw⟩
 ·exfalso;rcases hc with ⟨h1,_⟩|⟨p',h1,hc⟩
  ·rw [hp] at h1;cases h1
  ·rw [hp] at h1;cases h1;rcases hc with ⟨h2,_⟩|⟨_,h2,_⟩|⟨_,h2,h3,_⟩|⟨_,_,_,h3,_⟩
   ·exact h2 hk
   ·exact h2 hz
   ·exact h3 hm
   ·rw [he] at h3;cases h3
 ·rw [J3F];exact⟨n,hn,h1,h2,hr,hw⟩
theorem Z9h {x:Nat} {z:Int} {p:Pl} (hp:pget Z.S.l 1 x=some p) (hk:p.kind=2) (hz:0<=z/\z<256):Q9u Z.S.l Z.tb x z=Z3V (Z.av.en x z.toNat):=by
 unfold Q9u;rw [hp];simp only;rw [if_pos hk,if_pos hz];show _=Z3V ((Q0f Z.S.l Z.tb x z.toNat).map Ent.c);cases Q0f Z.S.l Z.tb x z.toNat <;> rfl
theorem Q7E {H:HL} (hs:Sep w H) (m:Mv) (hm:m.Wf):AsideM H 1 (fun _=>m) (some ⟨w.heap.size,0,none⟩) (w.alloc (.cells #[.int .i64 m.src,.int .i64 m.dst,.int .i64 m.r,.bool m.g] 90)):=by
 refine⟨fun j hj=>⟨w.heap.size,0,rfl,by simp,fun i v hv=>?_,hm⟩,fun a _ ha hk=>?_⟩
 ·obtain rfl:j=0:=by omega
  have:=(Cells.new w 90 m.cells).cell i v hv;have e:0+0*4+i=i:=by omega
  rw [e];exact this
 ·cases ha
  have:=hs.lt hk;simp at this
end
theorem Z0Z {l:List Pl} {i:Nat} {p:Pl} (h:l[i]?=some p) (hp:p.st=0) (ha:∀j,j<i->∃q,l[j]?=some q/\q.st≠0):Fst l i p:=⟨h,hp,fun j q hj hq=>by
 obtain⟨q',e1,e2⟩:=ha j hj;rw [hq] at e1;cases e1;exact e2⟩
def lt1 (k a x:Nat):List Pl:=(newL 64).set 1 ⟨k,a,0,1,0,x⟩
def lt2 (k a x m b y:Nat):List Pl:=(lt1 k a x).set 2 ⟨m,b,0,1,0,y⟩
def lt3 (k a x m b y n c z:Nat):List Pl:=(lt2 k a x m b y).set 3 ⟨n,c,0,1,0,z⟩
theorem J1U:(newL 64)[0]?=some ⟨1,64,0,1,0,0⟩/\Fst (newL 64) 1 (noPl 0):=⟨rfl,Z0Z rfl rfl fun j hj=>by
 obtain rfl:j=0:=by omega
 exact⟨_,rfl,by decide⟩⟩
theorem J1V (k a x:Nat):(lt1 k a x)[0]?=some ⟨1,64,0,1,0,0⟩/\Fst (lt1 k a x) 2 (noPl 0):=⟨rfl,Z0Z rfl rfl fun j hj=>by
 have:j=0∨j=1:=by omega
 rcases this with rfl|rfl
 ·exact⟨_,rfl,by decide⟩
 ·exact⟨_,rfl,(by decide:(1:Nat)≠0)⟩⟩
theorem J1W (k a x m b y:Nat):(lt2 k a x m b y)[0]?=some ⟨1,64,0,1,0,0⟩/\Fst (lt2 k a x m b y) 3 (noPl 0):=⟨rfl,Z0Z rfl rfl fun j hj=>by
 have:j=0∨j=1∨j=2:=by omega
 rcases this with rfl|rfl|rfl
 ·exact⟨_,rfl,by decide⟩
 ·exact⟨_,rfl,(by decide:(1:Nat)≠0)⟩
 ·exact⟨_,rfl,(by decide:(1:Nat)≠0)⟩⟩
theorem Q5h (k a x m b y n c z:Nat):pget (lt3 k a x m b y n c z) 1 1=some ⟨k,a,0,1,0,x⟩/\pget (lt3 k a x m b y n c z) 1 2=some ⟨m,b,0,1,0,y⟩/\pget (lt3 k a x m b y n c z) 1 3=some ⟨n,c,0,1,0,z⟩:=⟨by kernel_rfl,by kernel_rfl,by kernel_rfl⟩
theorem J1X (k a x m b y n c z:Nat):((lt3 k a x m b y n c z).filter Pl.is).length=4:=by kernel_rfl
theorem Z9i (a x b y c z:Nat):Q0v (lt3 2 a x 4 b y 2 c z) 0=352:=by kernel_rfl
theorem Z9j (a x b y c z:Nat):kids (lt3 2 a x 4 b y 2 c z) 2=[]:=by kernel_rfl
def AlQ (s c:Nat) (M:Int) (C:AV->Prop) (B:List (Nat×List Value)) (w0 wr:World):Prop:=∃Z a x b y d z,Z.s=s/\Z.S.c=c/\MkZ Z 1 20000 4 M (lt3 2 a x 4 b y 2 d z)/\C Z.av/\Z.F.next=M/\Step [] Z.hl w0 wr/\∀q∈B,AsideV Z.hl q.2 (some ⟨q.1,0,none⟩) wr
theorem AlQ.grown {s c:Nat} {M:Int} {C:AV->Prop} {B:List (Nat×List Value)} {w0 wr w':World} (h:AlQ s c M C B w0 wr) (hb:Below wr.heap.size wr w'):AlQ s c M C B w0 w':=by
 obtain⟨Z,a,x,b,y,d,z,h1,h2,h3,h4,h5,st,hB⟩:=h;exact⟨Z,a,x,b,y,d,z,h1,h2,h3,h4,h5,st.trans (st.sep.grown hb),fun q hq=>(hB q hq).step (st.sep.grown hb)⟩
theorem AlQ.box {s c:Nat} {M:Int} {C:AV->Prop} {B:List (Nat×List Value)} {w0 wr:World} (h:AlQ s c M C B w0 wr) (T:TypeId) (cs:List Value):AlQ s c M C ((wr.heap.size,cs)::B) w0 (wr.alloc (.cells cs.toArray T)):=by
 obtain⟨Z,a,x,b,y,d,z,h1,h2,h3,h4,h5,st,hB⟩:=h;have hb:=(Below.refl wr.heap.size wr).alloc (J2y _) (.cells cs.toArray T);refine⟨Z,a,x,b,y,d,z,h1,h2,h3,h4,h5,st.trans (st.sep.grown hb),fun q hq=>?_⟩;rcases J2D.1 hq with rfl|hq
 ·exact Q2F st.sep T cs
 ·exact (hB q hq).step (st.sep.grown hb)
def en0:Nat->Nat->Option (Nat×Nat):=fun _ _=>none
def E0 (a:AV):Prop:=a=⟨en0,[]⟩
def E1 (a:AV):Prop:=∃b1,a=⟨setA en0 1 5 (some (2,15)),[⟨1,b1,⟨1,5,0,[]⟩⟩]⟩
def E2 (r:Nat) (a:AV):Prop:=∃b1 b2,a=⟨setA (setA en0 1 5 (some (2,15))) 3 7 (some (2,r)),[⟨1,b1,⟨1,5,0,[2]⟩⟩,⟨2,b2,⟨3,7,1,[]⟩⟩]⟩
def E4 (a:AV):Prop:=(∀h s c,a.en h s=some c->h=1/\s=5/\c=(2,15))/\a.en 1 5=some (2,15)/\∃b1,a.N=[⟨1,b1,⟨1,5,0,[]⟩⟩]
def E5 (a:AV):Prop:=(∀h s c,a.en h s=some c->h=3/\s=9/\c=(2,15))/\a.en 3 9=some (2,15)
theorem Q1X {en:Nat->Nat->Option (Nat×Nat)} {h s h' s':Nat} {o:Option (Nat×Nat)} {c:Nat×Nat} (e:setA en h s o h' s'=some c):(h'=h/\s'=s/\o=some c)∨(¬(h'=h/\s'=s)/\en h' s'=some c):=by
 by_cases hh:h'=h/\s'=s
 ·rw [hh.1,hh.2,Q8T] at e;exact .inl ⟨hh.1,hh.2,e⟩
 ·rw [Q5c hh] at e;exact .inr ⟨hh,e⟩
theorem Z9k {w w1:World} {S:CO} (f:Q9R S 6 20000 1) (st:Step [] (S.hl++[]) w w1) :
  Calls prog 79 #[.pointer (some ⟨S.c,0,none⟩),.int .u32 0,.int .i64 2,.int .i64 0] w1 fun r w2=>r=.returned (.tuple #[.int .u32 1,.int .i64 0]) /\
   Calls prog 79 #[.pointer (some ⟨S.c,0,none⟩),.int .u32 0,.int .i64 4,.int .i64 0] w2 fun r w3=>r=.returned (.tuple #[.int .u32 2,.int .i64 0]) /\
    Calls prog 79 #[.pointer (some ⟨S.c,0,none⟩),.int .u32 0,.int .i64 2,.int .i64 0] w3 fun r w4=>r=.returned (.tuple #[.int .u32 3,.int .i64 0]) /\
     Calls prog 80 #[.pointer (some ⟨S.c,0,none⟩)] w4 fun r w5=>∃s,r=.returned (.pointer (some ⟨s,0,none⟩))/\AlQ s S.c 0 E0 [] w w5:=by
 refine (Z0Y (J0V f st) 2 1 (by omega) (by decide) (by omega) (by omega) fun l hl=>by subst hl;exact J1U).mono ?_;rintro r w2 ⟨rfl,q2⟩;refine⟨rfl,(Z0Y q2 4 2 (by omega) (by decide) (by omega) (by omega) fun l hl=>by
  obtain⟨l0,a,x,rfl,rfl⟩:=hl;exact J1V 2 a x).mono ?_⟩
 rintro r w3 ⟨rfl,q3⟩;refine⟨rfl,(Z0Y q3 2 3 (by omega) (by decide) (by omega) (by omega) fun l hl=>by
  obtain⟨l0,b,y,⟨l1,a,x,rfl,rfl⟩,rfl⟩:=hl;exact J1W 2 a x 4 b y).mono ?_⟩
 rintro r w4 ⟨rfl,S4,l,ec,⟨l0,d,z,⟨l1,b,y,⟨l2,a,x,rfl,rfl⟩,rfl⟩,rfl⟩,m,st4⟩;refine⟨rfl,?_⟩;rw [<- ec];refine (Z2d st4.sep fun _=>TB.emp).mono ?_;rintro r w5 ⟨Z,rfl,hZ,st5⟩;obtain⟨m1,m2,m3⟩:=J0X m hZ;exact⟨Z.s,rfl,Z,a,x,b,y,d,z,rfl,by rw [hZ.S],m1,m2,m3,st4.trans st5,fun q hq=>by cases hq⟩
theorem Z1a {Z:SP} {M:Int} {a x b y d z:Nat} (m:MkZ Z 1 20000 4 M (lt3 2 a x 4 b y 2 d z)) (E:List (Nat×Nat)) (hE:∀h s c,Z.av.en h s=some c->(h%256,s)∈E) (hl:E.length<=2) {i s:Nat} {er:Int}:¬WhyL Z [] 0 i s er:=by
 refine m.room E (E.map fun p=>(p.1,p.2/16)) hE (fun u v h=>J2E.2 ⟨_,h,rfl⟩) (o:=4) (by rw [J1X];exact J2y _) (by rw [J4j];omega) (cs:=352) (Z9i a x b y d z) (by rw [J4j];omega)
theorem J0Y {s c:Nat} {B:List (Nat×List Value)} {w0 wr:World} (h:AlQ s c 0 E0 B w0 wr) :
  Calls prog 41 #[.pointer (some ⟨s,0,none⟩),.int .u32 1,.int .i64 5,.agg #[.int .u32 2,.int .i64 15]] wr fun r w'=>r=.returned (.int .i64 0)/\AlQ s c 1 E1 B w0 w':=by
 obtain⟨Z,a,x,b,y,d,z,rfl,rfl,m,hC,Bq,st,hB⟩:=h;refine (Q9A st.sep m.ok (by omega) (x:=1) (h:=2) (by omega) (by omega) 5 15).mono ?_;rintro r w' ⟨er,rfl,R⟩;obtain⟨g1,g2,g3⟩:=Q5h 2 a x 4 b y 2 d z;rw [<- m.l] at g1 g2;unfold E0 at hC;obtain⟨rfl,Z',k1,k2,k3,⟨b1,k4⟩,k5,k6⟩:=R.fine g1 rfl (by omega) g2 (by omega) (by show (4:Nat)=8↔(128:Int)<=5;decide) (by rw [hC];rfl) fun er=>Z1a m [] (fun h s c hc=>by rw [hC] at hc;cases hc) (by simp)
 refine⟨rfl,Z',a,x,b,y,d,z,k2.s,k2.alt.c,m.same k1 k2,⟨b1,?_⟩,by rw [k5,Bq];rfl,st.trans k6,fun q hq=>(hB q hq).step k6⟩;have hN:Z.F.N=[]:=by show Z.av.N=_;rw [hC]
 rw [hN,Bq] at k4;rw [hC] at k3;generalize hz:Z'.av=av at k3 k4;obtain⟨en,N⟩:=av;simp only at k3 k4;rw [k3,k4];rfl
theorem Z9l {s c:Nat} {B:List (Nat×List Value)} {w0 wr:World} (h:AlQ s c 1 E1 B w0 wr) :
  Calls prog 39 #[.pointer (some ⟨s,0,none⟩),.int .u32 1,.int .u32 3,.slice (some ⟨wr.heap.size,0,none⟩) 1 1] (wr.alloc (.cells #[.int .i64 5,.int .i64 7,.int .i64 5,.bool false] 90)) fun r w'=>r=.returned (.int .i64 0)/\AlQ s c 2 (E2 5) B w0 w':=by
 obtain⟨Z,a,x,b,y,d,z,rfl,rfl,m,⟨b1,hC⟩,Bq,st,hB⟩:=h;have hb:=(Below.refl wr.heap.size wr).alloc (J2y _) (.cells #[.int .i64 5,.int .i64 7,.int .i64 5,.bool false] 90);have st2:=st.sep.grown hb;have BR:=Q7E st.sep ⟨5,7,5,false⟩ ⟨⟨by decide,by decide⟩,⟨by decide,by decide⟩,⟨by decide,by decide⟩⟩;obtain⟨g1,g2,g3⟩:=Q5h 2 a x 4 b y 2 d z;rw [<- m.l] at g1 g3;have An:FitM Z.av.en 1 3 ⟨5,7,5,false⟩:=by
  rw [hC];exact⟨by decide,by decide,by decide,rfl,⟨(2,15),rfl,by decide,by decide⟩,rfl⟩
 have K2:AsideM Z.hl 1 (fun _=>⟨5,7,5,false⟩) (some ⟨wr.heap.size,0,none⟩) (wr.alloc (.cells #[.int .i64 5,.int .i64 7,.int .i64 5,.bool false] 90)):=BR;have km:=Q3n (n:=1) (cap:=1) (A:=fun _=>⟨5,7,5,false⟩) st2.sep m.ok (by omega) (x:=1) (y:=3) (by omega) (by omega) (by omega) (by omega) K2;refine km.mono ?_;rintro r w' ⟨er,rfl,R⟩;obtain⟨rfl,hz⟩:=R.fine g1 rfl g3 rfl (Q7D An) fun er hw=>Z1a m [(1,5)] (fun h s c hc=>by
  rw [hC] at hc;rcases Q1X hc with ⟨rfl,rfl,_⟩|⟨_,h0⟩
  ·simp
  ·cases h0) (by simp) (Z2f hw)
 obtain⟨Z',c,b2,k1,k2,k3,k4,k5,k6⟩:=hz.one rfl;rw [hC] at k1 k2;obtain rfl:(2,15)=c:=by simpa [setA] using k1
 refine⟨rfl,Z',a,x,b,y,d,z,k4.s,k4.alt.c,m.same k3 k4,⟨b1,b2,?_⟩,by rw [k5,Bq];rfl,(st.trans st2).trans k6,fun q hq=>((hB q hq).step st2).step k6⟩;rw [k2,Bq];rfl
end Go.Proofs.YtfidemmgofcnmaaGreatDoor
