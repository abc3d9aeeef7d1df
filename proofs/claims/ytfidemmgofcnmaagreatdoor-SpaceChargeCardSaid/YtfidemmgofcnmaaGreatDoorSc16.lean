/- SpaceCharge returns true at every input. No condition. Part of its proof. -/
import Derived.Test.YtfidemmgofcnmaaGreatDoorSc15
set_option maxHeartbeats 4000000
set_option maxRecDepth 100000
set_option linter.unusedVariables false
namespace Go.Proofs.YtfidemmgofcnmaaGreatDoor
open Go.RowKit Go.Proofs.Tryz
def anyV (l:List Pl) (x:Nat):Value:=match pget l 2 x with
 | some p=>.tuple #[p.obj,.bool true]
 | none=>match pget l 1 x with
  | some p=>.tuple #[p.obj,.bool true]
  | none=>.tuple #[zobj,.bool false]
theorem Q8e {w:World} {S:CO} (h:Sep w S.hl) {x:Nat} {a b c e:Int} (hG:Calls prog 88 #[.pointer (some ⟨S.t,0,none⟩),.int .u32 x] (w.alloc (.cells #[.int .i64 0,.int .i64 0,.int .i64 0] 54)) (Told (w.alloc (.cells #[.int .i64 0,.int .i64 0,.int .i64 0] 54)) (.tuple #[.agg #[.int .i64 a,.int .i64 b,.int .i64 c],.int .i64 e]))) :
  Calls prog 30 #[.pointer (some ⟨S.c,0,none⟩),.int .u32 x] w (Told w (.tuple #[.agg #[.int .i64 a,.int .i64 b,.int .i64 c],.bool (e==0)])):=by
 have c1:=CO.c1 (h.alloc (.cells #[.int .i64 0,.int .i64 0,.int .i64 0] 54));clear h;go_enter func30,ntmps30;go_wp2_with (go_at_call 88;refine hG.mono ?_;rintro r w1 ⟨rfl,hb⟩;obtain⟨hb,e0,e1,e2,ef,Ab⟩:=new3 hb;have HB:=Q0a hb;have f0:=ef 0;have f1:=ef 1;have f2:=ef 2;clear hb ef);refine bodyPost_ret (v:=.tuple #[.agg #[.int .i64 a,.int .i64 b,.int .i64 c],.bool (e==0)]) (by simp [results,results30,go_sem,e0,e1,e2,Ab]) rfl ⟨rfl,Q9d HB.out _ _ _ _⟩
theorem Z8z {w:World} {S:CO} (h:Sep w S.hl) (ok:LOk S.l) {x:Nat} (hx:x<4294967296):Calls prog 30 #[.pointer (some ⟨S.c,0,none⟩),.int .u32 x] w (Told w (anyV S.l x)):=by
 unfold anyV;cases h2:pget S.l 2 x with
 | some p=>exact Q8e h (Z5N (h:=S.ht) (CO.sT (h.alloc _)) ok hx h2)
 | none =>
  have hp:=Z2Q (h:=S.ht) (CO.sT (h.alloc (.cells #[.int .i64 0,.int .i64 0,.int .i64 0] 54))) ok hx h2;cases h1:pget S.l 1 x with
  | some p =>
   refine Q8e (e:=0) h (hp.mono ?_);rintro r w' ⟨⟨a,b,c,e,rfl,(⟨q,hq,hv,rfl⟩|⟨hn,_,_⟩)⟩,hb⟩
   ·have:q=p:=by
     have Co:pget S.l 1 x=some q:=hq;rw [h1] at Co;cases Co;rfl
    subst this;rw [hv];exact⟨rfl,hb⟩
   ·have Dj:pget S.l 1 x=none:=hn;rw [h1] at Dj;cases Dj
  | none =>
   refine Q8e (e:=8) h (hp.mono ?_);rintro r w' ⟨⟨a,b,c,e,rfl,(⟨q,hq,hv,rfl⟩|⟨hn,hv,rfl⟩)⟩,hb⟩
   ·have Co:pget S.l 1 x=some q:=hq;rw [h1] at Co;cases Co
   ·rw [hv];exact⟨rfl,hb⟩
theorem Q2p {w:World} {B B' size n:Nat} {T:TypeId} {v:Value} {xs:List Value} (h:w.ownsRow B T size v n xs) (hB:B'<=B):w.ownsRow B' T size v n xs:=by
 refine⟨h.1,?_⟩;rcases h.2 with h|⟨g,cap,Aj,e,hg,rest⟩
 ·exact .inl h
 ·exact .inr ⟨g,cap,Aj,e,J2z hB hg,rest⟩
def kidT (l:List Pl) (a x:Nat):Bool:=decide (x≠0)&&match l[x%256]? with
 | some p=>decide (p.fac=a)
 | none=>false
theorem Z5Y {l:List Pl} {a x:Nat} {p:Pl} (hp:pget l 1 x=some p):kidT l a x=(decide (p.fac=a)&&decide (x≠0)):=by
 unfold kidT;rw [(pget_some.1 hp).1];simp [Bool.and_comm]
theorem Z5Z {w:World} {S:CO} {fr:List Nat} {N K:Nat} (h:Sep w S.hl) (ok:S.Ok fr N K) {x:Nat} (hx:x<4294967296) {p:Pl} (hp:pget S.l 1 x=some p) (hk:p.kind=1) :
  Calls prog 207 #[.pointer (some ⟨S.c,0,none⟩),.int .u32 x] w (NewHs w (kids S.l x)):=by
 have Bb:=ok.inv.lok;have hO:=Q6m h ok hx hp hk;have HS:=Q0a h;have JG:=Q0a Bb;have Fb:kids S.l x=(allL S.l 1).filter (kidT S.l p.own):=by
  unfold kids;rw [hp];simp only [hk,if_true];rfl
 rw [Fb];have Ut:Hid (∀w1,Below w.heap.size w w1->w1.cell? ⟨S.c,1,none⟩=some (.pointer (some ⟨S.t,0,none⟩))/\Calls prog 86 #[.pointer (some ⟨S.t,0,none⟩)] w1 (NewHs w1 (allL S.l 1))):=fun w1 hb=>by
  have s1:=(h.grown hb).sep;exact⟨CO.c1 s1,Q9a (h:=S.ht) (CO.sT s1) Bb⟩
 have TD:Hid (∀w1 y,Below w.heap.size w w1->y∈allL S.l 1->w1.cell? ⟨S.c,1,none⟩=some (.pointer (some ⟨S.t,0,none⟩))/\∃q:Pl,pget S.l 1 y=some q/\Calls prog 112 #[.pointer (some ⟨S.t,0,none⟩),.int .u32 y] w1 (Told w1 (.tuple #[.agg #[.int .i64 (q.kind:Int),.int .i64 (q.at_:Int),.int .i64 (q.fac:Int)],.int .i64 0]))):=fun w1 y hb hy=>by
  have s1:=(h.grown hb).sep;obtain⟨q,hq⟩:=(Q2H (by rw [Bb.1];omega)).1 hy;have CG:y<4294967296:=by
   obtain⟨a1,a2,_⟩:=pget_some.1 hq;have:=(Bb.2 q (J4O a1)).2;unfold nm at a2;omega
  exact⟨CO.c1 s1,q,hq,Q4I (h:=S.ht) (CO.sT s1) Bb CG hq⟩
 have Vz:(allL S.l 1).length<=256:=by
  have:=Q1i S.l 1 S.l.length;unfold allL;rw [Bb.1] at this ⊢;exact this
 obtain⟨i0,Dv,BH,Bi,Be⟩:=info_parts Q3B;clear h ok Bb hp hk Fb;generalize p.own=po at *
 generalize hL:allL S.l 1=L at *
 go_enter func207,ntmps207;go_wp2_with fail;refine hO.mono ?_;rintro r w1 ⟨rfl,Av⟩;obtain⟨c1,Ik⟩:=Ut.out w1 Av;have B4:=Q0a Av;clear Av;go_wp2_with fail;refine Ik.mono ?_;intro r w2 Ew;obtain⟨a0,Mq,rfl,Ag,Jg⟩:=Ew.shape;have Fe:Hid (Below w.heap.size w w2):=B4.out.trans (Ag.mono B4.out.size);have JB:=Q0a Jg;have Lp:=Fe.out.size;clear Ew Ag Jg Ik c1 hO;go_wp2_with fail
 go_loopg [5,26] L.length (fun gk ov iv wr=>∃k:Nat,iv=.int .i64 k/\k+gk=L.length/\OutH w2 wr ov ((L.take k).filter (kidT S.l po)))
 case atStart=>exact⟨0,rfl,J5e _,by simpa using OutH.nil w2⟩
 case round =>
  obtain⟨k,rfl,AH,Au⟩:=hrel;have HO:=Q0a Au;have B6:=Q0a AH;clear Au;by_cases Ab:k<L.length
  ·obtain⟨y,hy⟩:∃y,L[k]?=some y:=⟨_,J4R Ab⟩
   obtain⟨g0,rfl,NJ,DE,Al⟩:=(JB.out.below HO.out.2).at' k y hy;obtain⟨c1,q,hq,Bo⟩:=TD.out wr y (Fe.out.trans (HO.out.2.mono Fe.out.size)) (J4O hy);have BA:(L.take (k+1)).filter (kidT S.l po)=(L.take k).filter (kidT S.l po)++if kidT S.l po y=true then [y] else []:=by
    rw [J4w,hy,J4x];simp [List.filter_cons]
   have Bm:=Q0a BA;have Ee:=Z5Y (a:=po) hq;have QU:=Q0a Ee;have Ae:((L.take k).filter (kidT S.l po)).length<=256:=J2z (J4P _ _) (by rw [J4T];omega);clear BA Ee hq hy;go_wp2_with fail;refine Bo.mono ?_;rintro r w3 ⟨rfl,Ar⟩;have Hu:Hid (∀o,OutH w2 (w3.alloc o) u5 ((L.take k).filter (kidT S.l po))):=fun o=>(HO.out.below Ar).alloc o
   have UV:w2.heap.size<=w3.heap.size:=J2z HO.out.2.size Ar.size;clear Ar Bo HO;by_cases hc:kidT S.l po y=true
   ·have A6:=QU.out;rw [hc] at A6;have Mi:=A6.symm;rw [J2U,decide_eq_true_eq,decide_eq_true_eq] at Mi;have Av:(((q.fac:Nat):Int)==(po:Int))=true:=by simp;omega
    have Ag:(((y:Nat):Int) != 0)=true:=by simp;omega
    have Ar:(((y:Nat):Int)==0)=false:=by simp;omega
    have HC:=Q0a hc;clear hc A6 Mi;have DY:=Hu.out (.cells #[.int .i64 (q.kind:Int),.int .i64 (q.at_:Int),.int .i64 (q.fac:Int)] 54);go_wp2_with (refine wpList_append_own _ rfl (.tmp 47) (.tmp 49) 51 rfl w2.heap.size 58 i0 (.int .u32 0) 1 4 underlying51 Dv BH Bi Be rfl (by decide) _ _ _ rfl ((Hu.out _).1.alloc _) ⟨w3.heap.size+1,0,none⟩ 1 1 [.int .u32 y] rfl rfl (Q7k _ _ _) (by simp [Value.oneCell']) (by unfold maxLen;omega) (by omega) (by simp;omega) ?_;intro v' w4 AT BY _;have HR:=Q0a ((Hu.out _).app1 (M:=[y]) AT BY);clear AT BY Hu DY);have CX:Hid (OutH w2 w4 v' ((L.take (k+1)).filter (kidT S.l po))):=by
     have:=Bm.out;rw [if_pos HC.out] at this;rw [this];exact HR.out
    clear HR;go_roundg (L.length-(k+1))
    case measure=>have:=B6.out;omega
    case rel=>exact⟨k+1,by go_num,by omega,CX.out⟩
   ·have LY:kidT S.l po y=false:=by simpa using hc
    have CX:Hid (∀o,OutH w2 (w3.alloc o) u5 ((L.take (k+1)).filter (kidT S.l po))):=fun o=>by
     have:=Bm.out;rw [if_neg hc,J4G] at this;rw [this];exact Hu.out o
    have A6:=QU.out;rw [LY] at A6;have As:q.fac≠po∨q.fac=po/\y=0:=by
     by_cases h1:q.fac=po
     ·right;refine⟨h1,?_⟩;rcases Nat.eq_zero_or_pos y with h2|h2
      ·exact h2
      ·exfalso;have h3:y≠0:=by omega
       simp [h1,h3] at A6
     ·exact .inl h1
    clear hc A6 LY Hu;rcases As with h1|⟨h1,h2⟩
    ·have Av:=Q4H h1;clear h1;go_wp2_with fail;go_roundg (L.length-(k+1))
     case measure=>have:=B6.out;omega
     case rel=>exact⟨k+1,by go_num,by omega,CX.out _⟩
    ·have Av:(((q.fac:Nat):Int)==(po:Int))=true:=by simp;omega
     have Ag:(((y:Nat):Int) != 0)=false:=by simp;omega
     have Ar:(((y:Nat):Int)==0)=true:=by simp;omega
     clear h1 h2;go_wp2_with fail;go_roundg (L.length-(k+1))
     case measure=>have:=B6.out;omega
     case rel=>exact⟨k+1,by go_num,by omega,CX.out _⟩
  ·have Fs:k=L.length:=by omega
   have Au:=HO.out;rw [Fs,J6J] at Au;have HR:Hid (NewHs w (L.filter (kidT S.l po)) (.returned u5) wr):=⟨u5,rfl,Q2p Au.1 Lp,Fe.out.trans (Au.2.mono Lp)⟩
   clear Au HO;go_wp2_with fail
   first|exact HR.out|(go_ret;exact HR.out)
theorem Q9j {w:World} {S:CO} {x:Nat} {e:Int} (he:e≠0) (hO:Calls prog 150 #[.pointer (some ⟨S.c,0,none⟩),.int .u32 x] w (Told w (.tuple #[.int .i64 0,.int .i64 e]))) :
  Calls prog 207 #[.pointer (some ⟨S.c,0,none⟩),.int .u32 x] w (NewHs w []):=by
 have Av:(e==0)=false:=by simpa using he
 go_enter func207,ntmps207;go_wp2_with (go_at_call 150;refine hO.mono ?_;rintro r w1 ⟨rfl,hb⟩;have HB:=Q0a hb;clear hb);have HR:Hid (∀w',w'=w1->NewHs w [] (.returned (.slice none 0 0)) w'):=fun w' e=>⟨_,rfl,World.ownsRow_nil _ _ _ _,by rw [e];exact HB.out⟩
 first|exact HR.out _ rfl|(go_ret;exact HR.out _ rfl)
theorem Q9k {w:World} {S:CO} {fr:List Nat} {N K:Nat} (h:Sep w S.hl) (ok:S.Ok fr N K) {x:Nat} (hx:x<4294967296):Calls prog 207 #[.pointer (some ⟨S.c,0,none⟩),.int .u32 x] w (NewHs w (kids S.l x)):=by
 cases hp:pget S.l 1 x with
 | none =>
  rw [Q4z (fun p h=>by rw [hp] at h;cases h)];exact Q9j (e:=8) (by decide) (Q5I (by decide) (Q4J h ok.inv.lok hx 1 hp))
 | some p =>
  by_cases hk:p.kind=1
  ·exact Z5Z h ok hx hp hk
  ·rw [Q4z (fun q h=>by rw [hp] at h;cases h;exact hk)];exact Q9j (e:=10) (by decide) (Q5I (by decide) (Q4K h ok.inv.lok hx 1 hp (by decide) (by omega)))
structure Alt0 (S S':CO):Prop where
 c:S'.c=S.c
 t:S'.t=S.t
 l:S'.l=S.l
 g:S'.g=S.g
 per:S'.period=S.period
 now:S'.now=S.now
 rv:S'.rv=S.rv
 ts:S'.ts=S.ts
 same:SameP S.P S'.P
 next:S'.P.q.next=S.P.q.next
 acc:∀id e,find S.P.q.E id=some e->∃e',find S'.P.q.E id=some e'/\e'.q={e.q with charged:=e'.q.charged}
 ids:S'.P.q.E.map En.id=S.P.q.E.map En.id
 kept:∀r∈S.l,r.is=true->r.kind≠2->Kept S.P.a.mem S'.P.a.mem r.at_ (costK r.kind)
theorem Alt.alt0 {S S':CO} {own:Int} (h:Alt S S' own):Alt0 S S':=⟨h.c,h.t,h.l,h.g,h.per,h.now,h.rv,h.ts,h.same,h.next,fun id e he=>by
 obtain⟨e',a,b,_⟩:=h.acc id e he;exact⟨e',a,b⟩,h.ids,h.kept⟩
theorem Alt0.refl (S:CO):Alt0 S S:=(Alt.refl S 0).alt0
theorem Alt0.trans {S S1 S2:CO} (h:Alt0 S S1) (k:Alt0 S1 S2):Alt0 S S2:=by
 refine⟨k.c.trans h.c,k.t.trans h.t,k.l.trans h.l,k.g.trans h.g,k.per.trans h.per,k.now.trans h.now,k.rv.trans h.rv,k.ts.trans h.ts,h.same.trans k.same,k.next.trans h.next,fun id e he=>?_,k.ids.trans h.ids,fun r hr hi hk=>?_⟩
 ·obtain⟨e1,a1,a2⟩:=h.acc id e he;obtain⟨e2,b1,b2⟩:=k.acc id e1 a1;refine⟨e2,b1,?_⟩;rw [b2,a2]
 ·exact (h.kept r hr hi hk).trans (k.kept r (by rw [h.l];exact hr) hi hk)
structure SP where
 s:Nat
 S:CO
 tb:Nat->TB
 F:FO
def SP.head (Z:SP):Nat×(Obj->Prop):=(Z.s,isC 183 [ptr Z.S.c,ptr Z.F.f])
def SP.hl (Z:SP):HL:=Z.head::(Z.S.hl++Z.F.hl)
structure SP.Ok (Z:SP) (fr:List Nat) (N K:Nat) (M:Int):Prop where
 core:Z.S.Ok fr N K
 tpi:TPI Z.S Z.tb
 fpi:FPI Z.S.l Z.tb Z.F.N
 fo:Z.F.Ok
 next:Z.F.next<=M
def SP.av (Z:SP):AV:=avOf Z.S.l Z.tb Z.F.N
structure SameN (Z Z':SP):Prop where
 s:Z'.s=Z.s
 alt:Alt0 Z.S Z'.S
 f:Z'.F.f=Z.F.f
theorem SameN.refl (Z:SP):SameN Z Z:=⟨rfl,Alt0.refl _,rfl⟩
theorem SameN.trans {Z Z1 Z2:SP} (h:SameN Z Z1) (k:SameN Z1 Z2):SameN Z Z2:=⟨k.s.trans h.s,h.alt.trans k.alt,k.f.trans h.f⟩
structure SameZ (Z Z':SP):Prop extends SameN Z Z' where
 nx:Z'.F.next=Z.F.next
theorem SameZ.refl (Z:SP):SameZ Z Z:=⟨SameN.refl Z,rfl⟩
theorem SameZ.trans {Z Z1 Z2:SP} (h:SameZ Z Z1) (k:SameZ Z1 Z2):SameZ Z Z2:=⟨h.toSameN.trans k.toSameN,k.nx.trans h.nx⟩
def SP.setS (Z:SP) (S:CO) (tb:Nat->TB):SP:={Z with S:=S,tb:=tb}
def SP.setF (Z:SP) (F:FO):SP:={Z with F:=F}
theorem SP.permS (Z:SP):Z.hl.Perm (Z.S.hl++(Z.head::Z.F.hl)):=by
 unfold SP.hl;exact J6e.symm
theorem SP.permF (Z:SP):Z.hl.Perm (Z.F.hl++(Z.head::Z.S.hl)):=by
 unfold SP.hl;refine (List.Perm.cons _ J5n).trans ?_;exact J6e.symm
section
variable {w:World} {Z:SP}
theorem SP.sS (h:Sep w Z.hl):Sep w Z.S.hl:=h.part Z.permS
theorem SP.sF (h:Sep w Z.hl):Sep w Z.F.hl:=h.part Z.permF
theorem SP.cells (h:Sep w Z.hl):Cells w Z.s 183 [ptr Z.S.c,ptr Z.F.f]:=h.cells (by simp [SP.hl,SP.head])
theorem SP.c0 (h:Sep w Z.hl):w.cell? ⟨Z.s,0,none⟩=some (.pointer (some ⟨Z.S.c,0,none⟩)):=(SP.cells h).cell 0 _ rfl
theorem SP.c1 (h:Sep w Z.hl):w.cell? ⟨Z.s,1,none⟩=some (.pointer (some ⟨Z.F.f,0,none⟩)):=(SP.cells h).cell 1 _ rfl
end
theorem SP.stepS {w w':World} {Z:SP} (h:Sep w Z.hl) (S':CO) (tb':Nat->TB) (e:S'.c=Z.S.c) (s:Step Z.S.hl S'.hl w w'):Step Z.hl (Z.setS S' tb').hl w w':=by
 have hp:=(Z.setS S' tb').permS;have e1:(Z.setS S' tb').head=Z.head:=by unfold SP.head SP.setS;rw [e]
 rw [e1] at hp;exact Step.lift Z.permS hp h s
theorem SP.stepF {w w':World} {Z:SP} (h:Sep w Z.hl) (F':FO) (e:F'.f=Z.F.f) (s:Step Z.F.hl F'.hl w w'):Step Z.hl (Z.setF F').hl w w':=by
 have hp:=(Z.setF F').permF;have e1:(Z.setF F').head=Z.head:=by unfold SP.head SP.setF;rw [e]
 rw [e1] at hp;exact Step.lift Z.permF hp h s
theorem SP.Ok.mono {Z:SP} {fr:List Nat} {N N' K K':Nat} {M M':Int} (ok:Z.Ok fr N K M) (h1:N<=N') (h2:K<=K') (h3:M<=M'):Z.Ok fr N' K' M':=⟨ok.core.mono h1 h2,ok.tpi,ok.fpi,ok.fo,by have:=ok.next;omega⟩
theorem FPI.rights {l:List Pl} {tb:Nat->TB} {N:List (En Nd)} (f:FPI l tb N) {h s:Nat} {x:Nat×Nat} (hx:(avOf l tb N).en h s=some x):1<=x.2/\x.2<16:=by
 unfold avOf at hx;simp only at hx;cases he:Q0f l tb h s with
 | none=>rw [he] at hx;cases hx
 | some e =>
  rw [he] at hx;cases hx;have:=(f.cap h s e he).r;exact⟨this.1,by show e.r<16;omega⟩
theorem FPI.task {l:List Pl} {tb:Nat->TB} {N:List (En Nd)} (f:FPI l tb N) {next:Int} (ok:NOk N next) {n:En Nd} (hn:n∈N):∃(h s:Nat) (p:Pl) (e:Ent),n.q.sp=(h:Int)/\n.q.sl=(s:Int)/\h<4294967296/\s<256/\pget l 1 h=some p/\p.kind=2/\(tb (h%256)).en s=some e/\Q0f l tb h s=some e:=by
 obtain⟨e,he⟩:=f.is n hn;have hs:=ok.sm n hn;unfold Q0M at he;obtain⟨p,p1,p2,p3,p4⟩:=Q3D he;exact⟨n.q.sp.toNat,n.q.sl.toNat,p,e,by omega,by omega,by omega,p3,p1,p2,p4,he⟩
theorem FPI.own {l:List Pl} {tb:Nat->TB} {N:List (En Nd)} (f:FPI l tb N) {next:Int} (ok:NOk N next) {h s:Nat} {e:Ent} (he:Q0f l tb h s=some e):∃n∈N,n.q.sp=(h:Int)/\n.q.sl=(s:Int)/\ownN N (h:Int) (s:Int)=n.id/\find N n.id=some n:=by
 obtain⟨n,h1,h2,h3⟩:=f.has h s e he;refine⟨n,h1,h2,h3,?_,Q0l ok.ids h1⟩;rw [<- h2,<- h3];exact Q1L ok h1
theorem FPI.free {l:List Pl} {tb:Nat->TB} {N:List (En Nd)} (f:FPI l tb N) {next:Int} (ok:NOk N next) {h s:Nat} (he:Q0f l tb h s=none):ownN N (h:Int) (s:Int)=0:=by
 refine (Q1s ok).2 fun n hn hx=>?_
 obtain⟨e,h2⟩:=f.is n hn;simp only [Prod.mk.injEq] at hx;unfold Q0M at h2;rw [hx.1,hx.2,J3F,J3F,he] at h2;cases h2
theorem FPI.few {l:List Pl} {tb:Nat->TB} {N:List (En Nd)} (f:FPI l tb N) {next:Int} (ok:NOk N next) {h s:Nat} {p:Pl} (hp:pget l 1 h=some p) (hs:s<256) (he:Q0f l tb h s=none):N.length<65536:=by
 have key:∀n∈N,∃p s,pget l 1 n.q.sp.toNat=some p/\n.q.sl=((s:Nat):Int)/\s<256:=fun n hn=>by
  obtain⟨h',s',p',e',h1,h2,_,h3,h4,_⟩:=f.task ok hn;exact⟨p',s',by rw [h1,J3F];exact h4,h2,h3⟩
 have P6:∀n∈N,n.q.sp.toNat%256*256+n.q.sl.toNat<65536:=fun n hn=>by
  obtain⟨p',s',_,h2,h3⟩:=key n hn;omega
 have inj:∀a∈N,∀b∈N,a.q.sp.toNat%256*256+a.q.sl.toNat=b.q.sp.toNat%256*256+b.q.sl.toNat->a=b:=fun a ha b hb hc=>by
  obtain⟨pa,sa,a1,a2,a3⟩:=key a ha;obtain⟨pb,sb,b1,b2,b3⟩:=key b hb;have e1:a.q.sp.toNat%256=b.q.sp.toNat%256:=by omega
  obtain⟨e2,_,_⟩:=Q0R a1 b1 e1;have FN:=ok.sm a ha;have Ak:=ok.sm b hb;exact Q4d ok ha hb (by omega) (by omega)
 have nd:(N.map fun n=>n.q.sp.toNat%256*256+n.q.sl.toNat).Nodup:=by
  refine J3e.2 ?_;refine (List.Pairwise.and_mem.1 ok.ids).imp ?_;rintro a b ⟨ha,hb,CI⟩ hc;exact CI (by rw [inj a ha b hb hc])
 have D6:h%256*256+s∉N.map fun n=>n.q.sp.toNat%256*256+n.q.sl.toNat:=fun hm=>by
  obtain⟨n,hn,hc⟩:=J2E.1 hm;obtain⟨p',s',h1,h2,h3⟩:=key n hn;have e1:n.q.sp.toNat%256=h%256:=by omega
  obtain⟨e2,_,_⟩:=Q0R h1 hp e1;obtain⟨e,h4⟩:=f.is n hn;unfold Q0M at h4;rw [e2,show n.q.sl.toNat=s by omega,he] at h4;cases h4
 have Oi:∀B,(∀x∈(h%256*256+s)::N.map fun n=>n.q.sp.toNat%256*256+n.q.sl.toNat,x<B)->((h%256*256+s)::N.map fun n=>n.q.sp.toNat%256*256+n.q.sl.toNat).length<=B:=fun B hB=>Q4m B _ (J3w.2 ⟨D6,nd⟩) hB
 have:=Oi 65536 fun x hx=>by
  rcases J2D.1 hx with rfl|hx
  ·omega
  ·obtain⟨n,hn,rfl⟩:=J2E.1 hx;exact P6 n hn
 rw [J3k,J4j] at this;omega
structure TurnP (S:CO) (fr:List Nat) (N K:Nat) (tb:Nat->TB) (own:Int) (i s:Nat) (o:Option Ent) (S':CO) (t':TB):Prop where
 ok:S'.Ok fr N K
 tpi:TPI S' (updT tb i t')
 en:∀x,t'.en x=if x=s then o else (tb i).en x
 lf:∀k,(tb i).lf k=0∨t'.lf k=0∨t'.lf k=(tb i).lf k
 alt:Alt S S' own
def J1E (S:CO) (fr:List Nat) (N K:Nat) (tb:Nat->TB) (own:Int) (i s:Nat) (o:Option Ent) (w w':World):Prop:=∃S' t',TurnP S fr N K tb own i s o S' t'/\Step S.hl S'.hl w w'
theorem Q6q {l:List Pl} {tb:Nat->TB} (N N':List (En Nd)) {h s:Nat} {p:Pl} (hp:pget l 1 h=some p) (hk:p.kind=2) (hs:s<256) {t':TB} {o:Option Ent} (ht:∀x,t'.en x=if x=s then o else (tb (h%256)).en x) :
  avOf l (updT tb (h%256) t') N'=⟨setA (avOf l tb N).en h s (o.map Ent.c),N'⟩:=by
 unfold avOf setA;congr 1;funext h' s';rw [Q3E hp hk hs ht];split <;> rfl
theorem Q9l {l:List Pl} {tb:Nat->TB} {N:List (En Nd)} {h s:Nat} {e:Ent} (he:Q0f l tb h s=some e):(avOf l tb N).en h s=some (e.h,e.r):=by
 unfold avOf;simp only [he];rfl
theorem av_none {l:List Pl} {tb:Nat->TB} {N:List (En Nd)} {h s:Nat}:(avOf l tb N).en h s=none↔Q0f l tb h s=none:=by
 unfold avOf;simp
theorem Q3k {l:List Pl} {tb:Nat->TB} {N:List (En Nd)} {h s:Nat} {x:Nat×Nat} (hx:(avOf l tb N).en h s=some x):∃e,Q0f l tb h s=some e/\x=(e.h,e.r):=by
 unfold avOf at hx;simp only at hx;cases he:Q0f l tb h s with
 | none=>rw [he] at hx;cases hx
 | some e=>rw [he] at hx;cases hx;exact⟨e,rfl,rfl⟩
theorem Q2D {m:Nat} {a:AV} {id:Int} {n:En Nd} (hf:find a.N id=some n) {h s:Nat} (h1:n.q.sp=(h:Int)) (h2:n.q.sl=(s:Int)) {x:Nat×Nat} (hx:a.en h s=some x) :
  weak1 m a id=if less x.2 m=0 then (⟨setA a.en h s none,Q0C a.N n n.q.ks.length⟩,true) else (⟨setA a.en h s (some (x.1,less x.2 m)),a.N⟩,false):=by
 unfold weak1;rw [hf];simp only [h1,h2,J3F,hx]
section
variable {Z:SP} {fr:List Nat} {N K:Nat} {M:Int}
theorem SP.Ok.weakened (ok:Z.Ok fr N K M) {id:Int} {n:En Nd} (hf:find Z.F.N id=some n) {h s:Nat} {p:Pl} {e:Ent} (h1:n.q.sp=(h:Int)) (h2:n.q.sl=(s:Int)) (hp:pget Z.S.l 1 h=some p) (hk:p.kind=2) (hs:s<256) (he:Q0f Z.S.l Z.tb h s=some e) {m:Nat} (hm:m<16) (h0:less e.r m≠0)
  (hd:Q3F m Z.av [] id) {S':CO} {t':TB} (T:TurnP Z.S fr N K Z.tb (p.fac:Int) (h%256) s (some ⟨e.h,less e.r m,e.nd⟩) S' t') :
  (Z.setS S' (updT Z.tb (h%256) t')).Ok fr N K M/\weak1 m Z.av id=((Z.setS S' (updT Z.tb (h%256) t')).av,false)/\SameZ Z (Z.setS S' (updT Z.tb (h%256) t')):=by
 have hr:=(ok.fpi.cap h s e he).r;obtain⟨a1,a2,a3⟩:=Q5E e.r (by omega) m hm;have hl:=T.alt.l;have DP:=Q6q Z.F.N Z.F.N hp hk hs T.en;refine⟨⟨T.ok,T.tpi,?_,ok.fo,ok.next⟩,?_,⟨⟨rfl,T.alt.alt0,rfl⟩,rfl⟩⟩
 ·show FPI S'.l _ Z.F.N;rw [hl];refine ok.fpi.weak ok.fo.n hp hk hs he T.en rfl ⟨by show 1<=less e.r m;omega,by show less e.r m<=15;omega⟩ a2 fun c hc d Gm e1 e2 x hx=>?_
  -- d is the node itself
  obtain⟨d1,d2⟩:=Q0b Gm;obtain⟨n1,n2⟩:=Q0b hf;have TG:d=n:=Q4d ok.fo.n d1 n1 (by rw [e1,h1]) (by rw [e2,h2]);subst TG;obtain⟨q1,q2⟩:=ok.fo.n.par c hc;have Bg:c.q.par=d.id:=d2.symm;obtain⟨pp,p1,p2⟩:=q2 (by have:=ok.fo.n.rng d n1;omega);rw [Gm] at p1;cases p1;have U6:=ok.fpi.up c hc d Gm x e hx (by
   unfold Q0M;rw [h1,h2,J3F,J3F];exact he)
  have V3:1<=x.r/\x.r<=15:=by
   obtain⟨ch,cs,cp,ce,c1,c2,c3,c4,c5,c6,c7,c8⟩:=ok.fpi.task ok.fo.n hc;unfold Q0M at hx;rw [c1,c2,J3F,J3F,c8] at hx;cases hx;exact (ok.fpi.cap _ _ _ c8).r
  rcases hd d hf c.id p2 with hz|hz
  ·cases hz
  ·have EX:=hz c (Q0l ok.fo.n.ids hc) (x.h,x.r) (Q9l hx);exact Z8k x.r (by omega) e.r (by omega) m hm U6.2 EX
 ·rw [Q2D (a:=Z.av) hf h1 h2 (Q9l he)];simp only;rw [if_neg h0];congr 1;show _=avOf S'.l (updT Z.tb (h%256) t') Z.F.N;rw [hl,DP];rfl
theorem SP.Ok.lifted (ok:Z.Ok fr N K M) {id:Int} {n:En Nd} (hf:find Z.F.N id=some n) {h s:Nat} {p:Pl} {e:Ent} (h1:n.q.sp=(h:Int)) (h2:n.q.sl=(s:Int)) (hp:pget Z.S.l 1 h=some p) (hk:p.kind=2) (hs:s<256) (he:Q0f Z.S.l Z.tb h s=some e) {m:Nat} (h0:less e.r m=0)
  {S':CO} {t':TB} (T:TurnP Z.S fr N K Z.tb (p.fac:Int) (h%256) s none S' t') {F':FO} (hF:F'.N=Q0C Z.F.N n n.q.ks.length) (DO:F'.Ok) (IB:F'.next=Z.F.next) (FY:F'.f=Z.F.f) :
  ((Z.setF F').setS S' (updT Z.tb (h%256) t')).Ok fr N K M/\weak1 m Z.av id=(((Z.setF F').setS S' (updT Z.tb (h%256) t')).av,true)/\SameZ Z ((Z.setF F').setS S' (updT Z.tb (h%256) t')):=by
 have hl:=T.alt.l;have DP:=Q6q Z.F.N F'.N hp hk hs T.en;obtain⟨n1,n2⟩:=Q0b hf;refine⟨⟨T.ok,T.tpi,?_,DO,by show F'.next<=M;rw [IB];exact ok.next⟩,?_,⟨⟨rfl,T.alt.alt0,FY⟩,IB⟩⟩
 ·show FPI S'.l _ F'.N;rw [hl,hF];exact ok.fpi.lift ok.fo.n hp hk hs T.en (by rw [n2];exact hf) h1 h2
 ·rw [Q2D (a:=Z.av) hf h1 h2 (Q9l he)];simp only;rw [if_pos h0];congr 1;show _=avOf S'.l (updT Z.tb (h%256) t') F'.N;rw [hl,DP,hF];rfl
theorem SP.Ok.added (ok:Z.Ok fr N K M) {h s:Nat} {p:Pl} (hp:pget Z.S.l 1 h=some p) (hk:p.kind=2) (hs:s<256) (h0:Q0f Z.S.l Z.tb h s=none) {e:Ent} (hc:Q6O Z.S.l s e)
  {S':CO} {t':TB} (T:TurnP Z.S fr N K Z.tb (p.fac:Int) (h%256) s (some e) S' t') {par:Int} (Bg:par=0∨∃m em,find Z.F.N par=some m/\Q0M Z.S.l Z.tb m=some em/\e.h=em.h/\e.r&&&em.r=e.r) {F':FO} (A:Z1N Z.F par (h:Int) (s:Int) F') :
  ((Z.setF F').setS S' (updT Z.tb (h%256) t')).Ok fr N K (M+1)/\SameN Z ((Z.setF F').setS S' (updT Z.tb (h%256) t'))/\((Z.setF F').setS S' (updT Z.tb (h%256) t')).av.en=setA Z.av.en h s (some (e.h,e.r))/\∃b,((Z.setF F').setS S' (updT Z.tb (h%256) t')).av.N=addN Z.F.N par (Z.F.next+1) b (h:Int) (s:Int):=by
 have hl:=T.alt.l;obtain⟨b,hN⟩:=A.N;have DP:=Q6q Z.F.N F'.N hp hk hs T.en;have Gg:((Z.setF F').setS S' (updT Z.tb (h%256) t')).av=⟨setA Z.av.en h s ((some e).map Ent.c),F'.N⟩:=by
  show avOf S'.l (updT Z.tb (h%256) t') F'.N=_;rw [hl,DP];rfl
 refine⟨⟨T.ok,T.tpi,?_,A.ok,by show F'.next<=M+1;rw [A.next];have:=ok.next;omega⟩,⟨rfl,T.alt.alt0,A.f⟩,by rw [Gg];rfl,b,by rw [Gg];exact hN⟩;show FPI S'.l _ F'.N;rw [hl,hN];exact ok.fpi.add ok.fo.n hp hk hs h0 T.en hc b Bg
end
theorem Q2Q (w:World) (z:Int):Calls prog 92 #[.int .i64 z] w fun r w'=>r=.returned (.bool (decide (0<=z/\z<256)))/\w=w':=by
 by_cases h0:0<=z
 ·by_cases h1:z<256
  ·rw [decide_eq_true (show 0<=z/\z<256 from ⟨h0,h1⟩)];go_enter func92,ntmps92
   go_wp2
   go_ret;exact⟨rfl,rfl⟩
  ·rw [decide_eq_false (show ¬(0<=z/\z<256) from fun h=>h1 h.2)];have hd:decide (z<256)=false:=by simpa using h1
   go_enter func92,ntmps92
   go_wp2
   go_ret;exact⟨rfl,rfl⟩
 ·rw [decide_eq_false (show ¬(0<=z/\z<256) from fun h=>h0 h.1)];have hd:decide (0<=z)=false:=by simpa using h0
  go_enter func92,ntmps92
  go_wp2
  go_ret;exact⟨rfl,rfl⟩
theorem Q3J (w:World) (z:Int):Calls prog 106 #[.int .i64 z] w fun r w'=>r=.returned (.bool (decide (0<z/\z<=15)))/\w=w':=by
 by_cases h0:0<z
 ·by_cases h1:z<=15
  ·rw [decide_eq_true (show 0<z/\z<=15 from ⟨h0,h1⟩)];go_enter func106,ntmps106
   go_wp2
   go_ret;exact⟨rfl,rfl⟩
  ·rw [decide_eq_false (show ¬(0<z/\z<=15) from fun h=>h1 h.2)];have hd:decide (z<=15)=false:=by simpa using h1
   go_enter func106,ntmps106
   go_wp2
   go_ret;exact⟨rfl,rfl⟩
 ·rw [decide_eq_false (show ¬(0<z/\z<=15) from fun h=>h0 h.1)];have hd:decide (0<z)=false:=by simpa using h0
  go_enter func106,ntmps106
  go_wp2
  go_ret;exact⟨rfl,rfl⟩
theorem Q2E (w:World) (z:Int):Calls prog 96 #[.int .i64 z] w fun r w'=>r=.returned (.bool (decide (z<128)))/\w=w':=by
 go_enter func96,ntmps96
 go_wp2
 go_ret;exact⟨rfl,rfl⟩
theorem Z8A (h r:Nat) (hh:h<4294967295) (hr:r<16):bits .or .u64 ((h:Int)+1) ((r:Int)*4294967296)=(((⟨h,r,0⟩:Ent).a:Nat):Int):=by
 have e1:((h:Int)+1)=((h+1:Nat):Int):=by omega
 have e2:((r:Int)*4294967296)=((r*4294967296:Nat):Int):=by omega
 rw [e1,e2,u64_or_nat _ _ (by omega) (by omega)];unfold Ent.a;have:(h+1)|||(r*4294967296)=h+1+4294967296*r:=by
  rw [Nat.or_comm,nat_join 32 (r*4294967296) (h+1) (by omega) (by omega)];omega
 rw [this]
theorem J0G (h r:Nat) (hh:h<4294967295) (hr:r<16):bits .and .u64 ((((⟨h,r,0⟩:Ent).a:Nat):Int)) 4294967295=((h+1:Nat):Int):=by
 unfold Ent.a;have:=u64_and_nat (h+1+4294967296*r) 4294967295 (by omega) (by omega);rw [show ((4294967295:Nat):Int)=4294967295 from rfl] at this;rw [show (⟨h,r,0⟩:Ent).h=h from rfl,show (⟨h,r,0⟩:Ent).r=r from rfl,this,J4f _ 32];omega
theorem Z8B (h r:Nat) (hh:h<4294967295):(((⟨h,r,0⟩:Ent).a:Nat):Int)/4294967296=(r:Int):=by
 unfold Ent.a;show ((h+1+4294967296*r:Nat):Int)/4294967296=(r:Int);omega
theorem J2n (e:Ent):e.a=(⟨e.h,e.r,0⟩:Ent).a:=rfl
def capV:Option Ent->Value
 | none=>.tuple #[.agg #[.int .u32 0,.int .i64 0],.bool false]
 | some e=>.tuple #[.agg #[.int .u32 (e.h:Int),.int .i64 (e.r:Int)],.bool true]
def Ent.Low (e:Ent):Prop:=e.h<4294967295/\e.r<16
theorem Q1t {w:World} {S:CO} {t:TB} {p:Pl} {g:Nat} (T:TT S t p g w) (x f z:Int) (GJ:∀e,t.at' z=some e->e.Low) :
  Calls prog 93 #[.agg #[.pointer (some ⟨g,0,none⟩),.int .u32 x,.int .i64 f],.int .i64 z] w (Told w (capV (t.at' z))):=by
 have Ag:Below w.heap.size w ((w.alloc (.cells #[.pointer (some ⟨g,0,none⟩),.int .u32 x,.int .i64 f] 191)).alloc (.cells #[.int .u32 0,.int .i64 0] 72)):=((Below.refl _ _).alloc (J2y _) _).alloc (by simp) _;have kg:=Q3H (T.grown Ag) z;have hA:=(Cells.new w 191 [.pointer (some ⟨g,0,none⟩),.int .u32 x,.int .i64 f]).alloc (.cells #[.int .u32 0,.int .i64 0] 72);have a0:=hA.cell 0 _ rfl;have HE:Hid (∀o,Below w.heap.size w ((w.alloc (.cells #[.pointer (some ⟨g,0,none⟩),.int .u32 x,.int .i64 f] 191)).alloc o)):=fun o=>((Below.refl _ _).alloc (J2y _) _).alloc (by simp) o
 cases ho:t.at' z with
 | none =>
  rw [ho] at kg;unfold getV Q0s Q0W at kg;simp only [capV];clear T GJ ho hA Ag;go_enter func93,ntmps93;go_wp2_with fail;refine kg.mono ?_;rintro r w1 ⟨rfl,rfl⟩;go_wp2_with fail;refine bodyPost_ret (v:=.tuple #[.agg #[.int .u32 0,.int .i64 0],.bool false]) (by simp [results,results93,go_sem]) rfl ⟨rfl,HE.out _⟩
 | some e =>
  obtain⟨l1,l2⟩:=GJ e ho;rw [ho] at kg;simp only [getV,Q0s] at kg;simp only [capV];have h1:=J0G e.h e.r l1 l2;have h2:=Z8B e.h e.r l1;have Aa:((e.a:Nat):Int)≠0:=by unfold Ent.a;omega
  have FI:(((e.a:Nat):Int)==0)=false:=by simpa using Aa
  rw [<- J2n] at h1 h2;have Du:(bits .and .u64 ((e.a:Nat):Int) 4294967295-1)%4294967296=(e.h:Int):=by rw [h1];omega
  have Ew:((e.a:Nat):Int)/4294967296=(e.r:Int):=h2;have Vs:=Q0a Du;have S6:=Q0a Ew;clear Du Ew h1 h2;have Ab:e.a<18446744073709551616:=by unfold Ent.a;omega
  generalize Q0W (some e)=cb at *
  generalize e.a=ca at *
  generalize e.h=eh at *
  generalize e.r=er at *
  have Ts:(0:Int)<=(ca:Int):=by omega
  clear T GJ ho hA Ag Aa;go_enter func93,ntmps93;go_wp2_with fail;refine kg.mono ?_;rintro r w1 ⟨rfl,rfl⟩;go_wp2_with fail;refine bodyPost_ret (v:=.tuple #[.agg #[.int .u32 eh,.int .i64 er],.bool true]) (by simp [results,results93,go_sem,Vs.out,S6.out]) rfl ⟨rfl,HE.out _⟩
def TblZ (Z:SP) (p:Pl) (g:Nat) (w:World):Prop:=AsideV Z.hl [ptr Z.S.P.p,.int .i64 (p.fac:Int),.int .i64 (p.at_:Int)] (some ⟨g,0,none⟩) w
theorem SP.keyS {Z:SP} {b:Nat} (h:b∈keys Z.S.hl):b∈keys Z.hl:=(Z.permS.map Prod.fst).mem_iff.2 (by rw [J6d];exact J3v _ h)
theorem TblZ.c {Z:SP} {p:Pl} {g:Nat} {w:World} (h:TblZ Z p g w):TblC Z.S p g w:=fun j v hj=>by
 obtain⟨g',e,hk,hl,hc⟩:=h j v hj;exact⟨g',e,fun x=>hk (SP.keyS x),hl,hc⟩
theorem TblZ.step {Z Z':SP} {p:Pl} {g:Nat} {w w':World} (h:TblZ Z p g w) (st:Step Z.hl Z'.hl w w') (hp:Z'.S.P.p=Z.S.P.p):TblZ Z' p g w':=by
 unfold TblZ;rw [hp];exact AsideV.step h st
theorem TblZ.grown {Z:SP} {p:Pl} {g:Nat} {w w':World} (h:TblZ Z p g w) (hs:Sep w Z.hl) (hb:Below w.heap.size w w'):TblZ Z p g w':=h.step (hs.grown hb) rfl
theorem Q9m {w:World} {Z:SP} {fr:List Nat} {N K:Nat} (h:Sep w Z.hl) (ok:Z.S.Ok fr N K) {x:Nat} (hx:x<4294967296) {p:Pl} (hp:pget Z.S.l 1 x=some p) (hk:p.kind=2) :
  Calls prog 90 #[.pointer (some ⟨Z.s,0,none⟩),.int .u32 x] w fun r w'=>∃g:Nat,r=.returned (.tuple #[.agg #[.pointer (some ⟨g,0,none⟩),.int .u32 x,.int .i64 (p.fac:Int)],.int .i64 0])/\Below w.heap.size w w'/\TblZ Z p g w'/\w.heap.size<=g:=by
 have b1:Below w.heap.size w (w.alloc (.cells #[.pointer none,.int .u32 0,.int .i64 0] 191)):=(Below.refl _ _).alloc (J2y _) _;have s1:=(h.grown b1).sep;have c0:=SP.c0 s1;have hO:Calls prog 49 #[.pointer (some ⟨Z.S.c,0,none⟩),.int .u32 x,.int .i64 2] (w.alloc (.cells #[.pointer none,.int .u32 0,.int .i64 0] 191)) (Told (w.alloc (.cells #[.pointer none,.int .u32 0,.int .i64 0] 191)) (.tuple #[.agg #[.int .i64 (p.kind:Int),.int .i64 (p.at_:Int),.int .i64 (p.fac:Int)],.int .i64 0])):=Q3I (SP.sS s1) ok.inv.lok hx 2 hp (.inr (by omega));have hu:p.at_∈Z.S.P.usedOf 2:=Q1J ok (pget_some.1 hp).1 (pget_some.1 hp).2.2 hk
 have HC:Hid (∀w1,Below (w.alloc (.cells #[.pointer none,.int .u32 0,.int .i64 0] 191)).heap.size (w.alloc (.cells #[.pointer none,.int .u32 0,.int .i64 0] 191)) w1 ->
   ((w1.alloc (.cells #[.int .i64 (p.kind:Int),.int .i64 (p.at_:Int),.int .i64 (p.fac:Int)] 54)).cell? ⟨Z.s,0,none⟩=some (.pointer (some ⟨Z.S.c,0,none⟩))/\(w1.alloc (.cells #[.int .i64 (p.kind:Int),.int .i64 (p.at_:Int),.int .i64 (p.fac:Int)] 54)).cell? ⟨w1.heap.size,1,none⟩=some (.int .i64 (p.at_:Int))/\(w1.alloc (.cells #[.int .i64 (p.kind:Int),.int .i64 (p.at_:Int),.int .i64 (p.fac:Int)] 54)).cell? ⟨w1.heap.size,2,none⟩=some (.int .i64 (p.fac:Int))) /\
   ∀w2,Below (w1.alloc (.cells #[.int .i64 (p.kind:Int),.int .i64 (p.at_:Int),.int .i64 (p.fac:Int)] 54)).heap.size (w1.alloc (.cells #[.int .i64 (p.kind:Int),.int .i64 (p.at_:Int),.int .i64 (p.fac:Int)] 54)) w2 ->
    Calls prog 27 #[.pointer (some ⟨Z.S.c,0,none⟩)] w2 (fun r w'=>r=.returned (.pointer (some ⟨Z.S.P.p,0,none⟩))/\w2=w') /\
    Calls prog 169 #[.pointer (some ⟨Z.S.P.p,0,none⟩),.int .i64 (p.fac:Int),.int .i64 (p.at_:Int)] w2 (fun r w'=>(w'.cell? ⟨Z.s,0,none⟩=some (.pointer (some ⟨Z.S.c,0,none⟩))/\w'.cell? ⟨w1.heap.size,1,none⟩=some (.int .i64 (p.at_:Int))/\w'.cell? ⟨w1.heap.size,2,none⟩=some (.int .i64 (p.fac:Int)))/\∃g:Nat,r=.returned (.pointer (some ⟨g,0,none⟩))/\Cells w' w.heap.size 191 [.pointer none,.int .u32 0,.int .i64 0]/\(∀a b c,(((w'.setCell ⟨w.heap.size,0,none⟩ a).setCell ⟨w.heap.size,1,none⟩ b).setCell ⟨w.heap.size,2,none⟩ c).cell? ⟨Z.s,0,none⟩=some (.pointer (some ⟨Z.S.c,0,none⟩))/\(((w'.setCell ⟨w.heap.size,0,none⟩ a).setCell ⟨w.heap.size,1,none⟩ b).setCell ⟨w.heap.size,2,none⟩ c).cell? ⟨w1.heap.size,1,none⟩=some (.int .i64 (p.at_:Int))/\(((w'.setCell ⟨w.heap.size,0,none⟩ a).setCell ⟨w.heap.size,1,none⟩ b).setCell ⟨w.heap.size,2,none⟩ c).cell? ⟨w1.heap.size,2,none⟩=some (.int .i64 (p.fac:Int)))/\∀a b c,Below w.heap.size w (((w'.setCell ⟨w.heap.size,0,none⟩ a).setCell ⟨w.heap.size,1,none⟩ b).setCell ⟨w.heap.size,2,none⟩ c)/\TblZ Z p g (((w'.setCell ⟨w.heap.size,0,none⟩ a).setCell ⟨w.heap.size,1,none⟩ b).setCell ⟨w.heap.size,2,none⟩ c)/\w.heap.size<=g)):=fun w1 Av=>by
  have hR:=(Cells.new w 191 [.pointer none,.int .u32 0,.int .i64 0]).same (Av.block w.heap.size (by simp));have Md:Below w.heap.size w w1:=Q0e Av;have Db:=Md.alloc Md.size (.cells #[.int .i64 (p.kind:Int),.int .i64 (p.at_:Int),.int .i64 (p.fac:Int)] 54);have Og:=Cells.new w1 54 [.int .i64 (p.kind:Int),.int .i64 (p.at_:Int),.int .i64 (p.fac:Int)];have NT:w.heap.size<w1.heap.size:=by have:=Av.size;simp at this;omega
  have Th:=hR.alloc (.cells #[.int .i64 (p.kind:Int),.int .i64 (p.at_:Int),.int .i64 (p.fac:Int)] 54);refine⟨⟨SP.c0 (h.grown Db).sep,Og.cell 1 _ rfl,Og.cell 2 _ rfl⟩,fun w2 Ag=>?_⟩;have La:Below w.heap.size w w2:=Db.trans (Ag.mono (by simp;omega));have s2:=(h.grown La).sep;refine⟨Q1A (SP.sS s2),(J0F (SP.sS s2) ok hu).mono ?_⟩;rintro r w' ⟨g,rfl,Ar,ht,hg⟩;have Ng:=(Og.same (Ag.block w1.heap.size (by simp))).same (Ar.block w1.heap.size (by have:=Ag.size;simp at this;omega));have AC:Below w.heap.size w w':=La.trans (Ar.mono La.size);have UW:=(Th.same (Ag.block w.heap.size (by simp;omega))).same (Ar.block w.heap.size (by have:=Ag.size;simp at this;omega))
  refine⟨⟨SP.c0 (h.grown AC).sep,Ng.cell 1 _ rfl,Ng.cell 2 _ rfl⟩,g,rfl,UW,fun a b c=>?_,fun a b c=>?_⟩
  ·have Br:∀(W:World) (i k j:Nat) (u:Value),k≠w.heap.size->(W.setCell ⟨w.heap.size,i,none⟩ u).cell? ⟨k,j,none⟩=W.cell? ⟨k,j,none⟩:=fun W i k j u hk=>World.cell?_of_block (Below.heap_setCell _ _ _ _ (by simpa using hk))
   have EF:Z.s≠w.heap.size:=fun hx=>by
    have:=h.lt (b:=Z.s) (by simp [SP.hl,SP.head,keys]);omega
   have De:w1.heap.size≠w.heap.size:=by omega
   rw [Br _ _ _ _ _ EF,Br _ _ _ _ _ EF,Br _ _ _ _ _ EF,Br _ _ _ _ _ De,Br _ _ _ _ _ De,Br _ _ _ _ _ De,Br _ _ _ _ _ De,Br _ _ _ _ _ De,Br _ _ _ _ _ De];exact⟨SP.c0 (h.grown AC).sep,Ng.cell 1 _ rfl,Ng.cell 2 _ rfl⟩
  refine⟨((AC.setCell (J2y _) _).setCell (J2y _) _).setCell (J2y _) _,fun j v hj=>?_,by have:=Ag.size;simp at this;omega⟩;obtain⟨g',e,_,hl,hc⟩:=ht j v hj;obtain rfl:g=g':=by cases e;rfl
  clear e;have DE:w.heap.size<g:=by have:=Ag.size;simp at this;omega
  refine⟨g,rfl,fun hk=>?_,by simpa using hl,?_⟩
  ·have:=s2.lt hk;omega
  ·have Aa:∀(W:World) (i:Nat) (u:Value),(W.setCell ⟨w.heap.size,i,none⟩ u).cell? ⟨g,j,none⟩=W.cell? ⟨g,j,none⟩:=fun W i u=>World.cell?_of_block (Below.heap_setCell _ _ _ _ (by simp;omega))
   rw [Aa,Aa,Aa];exact hc
 clear h ok hp hu b1 s1;have A2:((p.kind:Nat):Int)=2:=by omega
 rw [A2] at hO;simp only [A2] at HC;clear A2 hk;generalize p.at_=pa at *
 go_enter func90,ntmps90;go_wp2_with fail;refine hO.mono ?_;rintro r w1 ⟨rfl,Av⟩;obtain⟨⟨c1,c2,c3⟩,A6⟩:=HC.out w1 Av;have O0:=Q0a A6;have d1:(w1.alloc (.cells #[.int .i64 2,.int .i64 pa,.int .i64 (p.fac:Int)] 54)).drew.cell? ⟨Z.s,0,none⟩=some (.pointer (some ⟨Z.S.c,0,none⟩)):=c1;have d2:(w1.alloc (.cells #[.int .i64 2,.int .i64 pa,.int .i64 (p.fac:Int)] 54)).drew.cell? ⟨w1.heap.size,1,none⟩=some (.int .i64 pa):=c2;have d3:(w1.alloc (.cells #[.int .i64 2,.int .i64 pa,.int .i64 (p.fac:Int)] 54)).drew.cell? ⟨w1.heap.size,2,none⟩=some (.int .i64 (p.fac:Int)):=c3;clear Av A6 HC hO;go_wp2_with fail
 have Dw:=(O0.out _ ((Below.refl _ _).drew)).1;have Fw:=(O0.out _ ((Below.refl _ _).drew)).2;have IT:=Q0a Fw;clear Fw O0
 go_region_held3 (fun w'=>w'.cell? ⟨Z.s,0,none⟩=some (.pointer (some ⟨Z.S.c,0,none⟩))/\w'.cell? ⟨w1.heap.size,1,none⟩=some (.int .i64 pa)/\w'.cell? ⟨w1.heap.size,2,none⟩=some (.int .i64 (p.fac:Int))) (first|exact⟨c1,c2,c3⟩|exact⟨d1,d2,d3⟩|exact Al|exact Dy _ _ _)
  (first|(go_at_call 27;refine Dw.mono ?_;rintro r w' ⟨rfl,rfl⟩)|(go_at_call 169;refine IT.out.mono ?_;rintro r w3 ⟨Al,g,rfl,Ai,Dy,hz⟩;have HZ:=Q0a hz;have e0:=Ai.cell 0 _ rfl;have e1:=Ai.cell 1 _ rfl;have e2:=Ai.cell 2 _ rfl;have f0:=Ai.free 0;have f1:=Ai.free 1;have f2:=Ai.free 2;have Ab:=Ai.lt;clear hz Ai IT))
 go_wp2_with fail;refine bodyPost_ret (v:=.tuple #[.agg #[.pointer (some ⟨g,0,none⟩),.int .u32 x,.int .i64 (p.fac:Int)],.int .i64 0]) (by simp [results,results90,go_sem,e0,e1,e2]) rfl ⟨g,rfl,HZ.out _ _ _⟩
theorem Q0V {w:World} {Z:SP} {fr:List Nat} {N K:Nat} (h:Sep w Z.hl) (ok:Z.S.Ok fr N K) {x:Nat} (hx:x<4294967296) {p:Pl} (hp:pget Z.S.l 1 x=some p) (hk:p.kind=2) :
  Calls prog 90 #[.pointer (some ⟨Z.s,0,none⟩),.int .u32 x] w fun r w'=>∃g:Nat,r=.returned (.tuple #[.agg #[.pointer (some ⟨g,0,none⟩),.int .u32 x,.int .i64 (p.fac:Int)],.int .i64 0])/\Below w.heap.size w w'/\TblZ Z p g w':=
 (Q9m h ok hx hp hk).mono fun r w' ⟨g,h1,h2,h3,_⟩=>⟨g,h1,h2,h3⟩
theorem Q7s {w:World} {Z:SP} (h:Sep w Z.hl) {x:Nat} {e:Int} (he:e≠0) (hO:Calls prog 49 #[.pointer (some ⟨Z.S.c,0,none⟩),.int .u32 x,.int .i64 2] (w.alloc (.cells #[.pointer none,.int .u32 0,.int .i64 0] 191)) (Told (w.alloc (.cells #[.pointer none,.int .u32 0,.int .i64 0] 191)) (.tuple #[.agg #[.int .i64 0,.int .i64 0,.int .i64 0],.int .i64 e]))) :
  Calls prog 90 #[.pointer (some ⟨Z.s,0,none⟩),.int .u32 x] w (Told w (.tuple #[.agg #[.pointer none,.int .u32 0,.int .i64 0],.int .i64 e])):=by
 have b1:Below w.heap.size w (w.alloc (.cells #[.pointer none,.int .u32 0,.int .i64 0] 191)):=(Below.refl _ _).alloc (J2y _) _;have c0:=SP.c0 (h.grown b1).sep;have FI:(e==0)=false:=by simpa using he
 have HC:Hid (∀w1,Below (w.alloc (.cells #[.pointer none,.int .u32 0,.int .i64 0] 191)).heap.size (w.alloc (.cells #[.pointer none,.int .u32 0,.int .i64 0] 191)) w1->(∀o,Cells (w1.alloc o) w.heap.size 191 [.pointer none,.int .u32 0,.int .i64 0])/\∀o a b c,Below w.heap.size w ((((w1.alloc o).setCell ⟨w.heap.size,0,none⟩ a).setCell ⟨w.heap.size,1,none⟩ b).setCell ⟨w.heap.size,2,none⟩ c)):=fun w1 Av=>by
  have hR:=(Cells.new w 191 [.pointer none,.int .u32 0,.int .i64 0]).same (Av.block w.heap.size (by simp));exact⟨hR.alloc,fun o a b c=>((((Q0e Av).alloc (Q0e Av).size o).setCell (J2y _) _).setCell (J2y _) _).setCell (J2y _) _⟩
 clear h b1;go_enter func90,ntmps90;go_wp2_with fail;refine hO.mono ?_;rintro r w1 ⟨rfl,Av⟩;obtain⟨BJ,hz⟩:=HC.out w1 Av;have Ai:=BJ (.cells #[.int .i64 0,.int .i64 0,.int .i64 0] 54);have HZ:=Q0a hz;have e0:=Ai.cell 0 _ rfl;have e1:=Ai.cell 1 _ rfl;have e2:=Ai.cell 2 _ rfl;have f0:=Ai.free 0;have f1:=Ai.free 1;have f2:=Ai.free 2;have Ab:=Ai.lt;clear Av hz Ai BJ HC hO;go_wp2_with fail;refine bodyPost_ret (v:=.tuple #[.agg #[.pointer none,.int .u32 0,.int .i64 0],.int .i64 e]) (by simp [results,results90,go_sem,e0,e1,e2]) rfl ⟨rfl,HZ.out _ _ _ _⟩
theorem Q0I {w:World} {Z:SP} {fr:List Nat} {N K:Nat} (h:Sep w Z.hl) (ok:Z.S.Ok fr N K) {x:Nat} (hx:x<4294967296) (e:Int) (hw:(pget Z.S.l 1 x=none/\e=8)∨∃p,pget Z.S.l 1 x=some p/\p.kind≠2/\e=10) :
  Calls prog 90 #[.pointer (some ⟨Z.s,0,none⟩),.int .u32 x] w (Told w (.tuple #[.agg #[.pointer none,.int .u32 0,.int .i64 0],.int .i64 e])):=by
 have s1:=(h.grown ((Below.refl w.heap.size w).alloc (J2y _) (.cells #[.pointer none,.int .u32 0,.int .i64 0] 191))).sep;rcases hw with ⟨hp,rfl⟩|⟨p,hp,hk,rfl⟩
 ·exact Q7s h (by decide) (Q4J (SP.sS s1) ok.inv.lok hx 2 hp)
 ·exact Q7s h (by decide) (Q4K (SP.sS s1) ok.inv.lok hx 2 hp (by decide) (by omega))
def J0H (Z:SP) (fr:List Nat) (N K:Nat) (own:Int) (i s:Nat) (o:Option Ent) (w w':World):Prop:=∃S' t',TurnP Z.S fr N K Z.tb own i s o S' t'/\Step Z.hl (Z.setS S' (updT Z.tb i t')).hl w w'
def WhyL (Z:SP) (fr:List Nat) (own:Int) (i s:Nat) (er:Int):Prop:=
 (er=5/\∃e,find Z.S.P.q.E own=some e/\Q0x e<48)∨(er=4/\NoRoom Z.S.P 6) ∨
 ∃a P1,GetOk Z.S.P fr own 6 a P1/\(Z.tb i).lf (s/16)=0/\((er=5/\∃e,find P1.q.E own=some e/\Q0x e<256)∨(er=4/\NoRoom P1 7))
def LayR (Z:SP) (fr:List Nat) (N K:Nat) (own:Int) (i s h r:Nat) (w:World) (er:Int) (w':World):Prop:=
 (er=0/\∃nd,J0H Z fr N K own i s (some ⟨h,r,nd⟩) w w')∨((er=4∨er=5)/\WhyL Z fr own i s er/\∃P',Tried Z.S.P fr Z.S.l P'/\Step Z.hl (Z.setS (Z.S.setP P') Z.tb).hl w w')
theorem Z1O {S:CO} {fr:List Nat} {N K:Nat} {tb:Nat->TB} {own:Int} {xl xn xn':List Nat} (ok:S.Ok fr N K) (t:TPX S tb own xl xn) {i s:Nat} {p:Pl} (hi:S.l[i]?=some p) (h1:p.st=1) (h2:p.kind=2) (Ah:(p.fac:Int)=own) (hs:s<256) {e:Ent} (hn:(xn'++((tb i).setE s (some e)).nds).Perm (xn++(tb i).nds))
  (hA:Q0s (some e)<18446744073709551616) (hB:Q0W (some e)<18446744073709551616) {w:World} {g:Nat} (A8:Sep w S.hl) (hg:TblC S p g w) :
  Calls prog 103 #[.pointer (some ⟨g,0,none⟩),.int .i64 s,.int .u64 (Q0s (some e):Nat),.int .u64 (Q0W (some e):Nat)] w (SetR S fr N K tb own xl xn' i s (some e) w):=by
 by_cases hl:(tb i).lf (s/16)=0
 ·obtain⟨ac,Fr⟩:=Q8Y ok hi h1;rw [Ah] at Fr;exact Z8n ok t hi h1 h2 Ah hs hl Fr hn hA hB A8 hg
 ·exact Z8m ok t hi h1 h2 Ah hs hl hn hA hB A8 hg
theorem Put1.turn {S:CO} {fr:List Nat} {N K:Nat} {tb:Nat->TB} {own:Int} {i s:Nat} {o:Option Ent} {w w':World} (h:Put1 S fr N K tb own [] [] i s o w w') (hf:∀j,j<256->(tb j).Full):J1E S fr N K tb own i s o w w':=by
 obtain⟨S',t',ok,t,en,full,lf,al,st⟩:=h;refine⟨S',t',⟨ok,t.done fun j hj=>?_,en,lf,al⟩,st⟩;by_cases e:j=i
 ·subst e;rw [updT_same];exact full (hf j hj)
 ·rw [Q0X e];exact hf j hj
theorem TurnP.after {S S1:CO} {fr:List Nat} {N K:Nat} {tb:Nat->TB} {own:Int} {i s:Nat} {o:Option Ent} {S':CO} {t':TB} (al:Alt S S1 own) (h:TurnP S1 fr N K tb own i s o S' t'):TurnP S fr N K tb own i s o S' t':=⟨h.ok,h.tpi,h.en,h.lf,al.trans h.alt⟩
structure BoxL (Z:SP) (g x f h r B:Nat) (w:World):Prop where
 x:AsideV Z.hl [.pointer (some ⟨g,0,none⟩),.int .u32 x,.int .i64 f] (some ⟨B,0,none⟩) w
 c:AsideV Z.hl [.int .u32 h,.int .i64 r] (some ⟨B+1,0,none⟩) w
theorem BoxL.step {Z Z':SP} {g x f h r B:Nat} {w w':World} (b:BoxL Z g x f h r B w) (st:Step Z.hl Z'.hl w w'):BoxL Z' g x f h r B w':=⟨b.x.step st,b.c.step st⟩
theorem AsideV.at {H:HL} {cs:List Value} {b:Nat} {w:World} (h:AsideV H cs (some ⟨b,0,none⟩) w) (j:Nat) (v:Value) (hj:cs[j]?=some v):w.cell? ⟨b,j,none⟩=some v:=by
 obtain⟨g,e,_,_,hc⟩:=h j v hj;cases e;exact hc
def HeldL (Z:SP) (g f h r B:Nat) (w':World):Prop:=w'.cell? ⟨Z.s,0,none⟩=some (.pointer (some ⟨Z.S.c,0,none⟩))/\w'.cell? ⟨B,0,none⟩=some (.pointer (some ⟨g,0,none⟩))/\w'.cell? ⟨B,2,none⟩=some (.int .i64 f)/\w'.cell? ⟨B+1,0,none⟩=some (.int .u32 h)/\w'.cell? ⟨B+1,1,none⟩=some (.int .i64 r)
theorem BoxL.held {Z:SP} {g x f h r B:Nat} {w:World} (b:BoxL Z g x f h r B w) (hs:Sep w Z.hl):HeldL Z g f h r B w:=⟨SP.c0 hs,b.x.at 0 _ rfl,b.x.at 2 _ rfl,b.c.at 0 _ rfl,b.c.at 1 _ rfl⟩
theorem HeldL.grown {Z:SP} {g f h r B:Nat} {w w':World} (b:HeldL Z g f h r B w) (hb:Below w.heap.size w w'):HeldL Z g f h r B w':=by
 obtain⟨a1,a2,a3,a4,a5⟩:=b;have k:∀{p:Addr} {v:Value},w.cell? p=some v->w'.cell? p=some v:=fun {p v} e=>(hb.cell (World.block_lt_of_cell? w p e)).trans e
 exact⟨k a1,k a2,k a3,k a4,k a5⟩
theorem Z6a {w w1:World} {Z:SP} {fr:List Nat} {N K:Nat} (hs:Sep w Z.hl) (hb:Below w.heap.size w w1) (ok:Z.S.Ok fr N K) (t:TPI Z.S Z.tb) {i s x g B h r:Nat} {p:Pl} (hi:Z.S.l[i]?=some p) (h1:p.st=1) (h2:p.kind=2) (A7:s<256) (h0:(Z.tb i).en s=none) (hh:h<4294967295) (hr:r<16)
  (hg:TblZ Z p g w1) (BT:BoxL Z g x p.fac h r B w1) :
  Calls prog 15 #[.pointer (some ⟨Z.S.P.p,0,none⟩),.int .i64 (p.fac:Int),.int .i64 6] w1 fun rv w2=>HeldL Z g p.fac h r B w2/\∃a er:Int,rv=.returned (.tuple #[.int .i64 a,.int .i64 er]) /\
   (((er=4∨er=5)/\LayR Z fr N K p.fac i s h r w er w2) ∨
    ∃A:Nat,a=(A:Int)/\er=0/\A<=1073741824/\∀w3,Below w2.heap.size w2 w3 ->
    Calls prog 103 #[.pointer (some ⟨g,0,none⟩),.int .i64 s,.int .u64 ((⟨h,r,0⟩:Ent).a:Nat),.int .u64 A] w3 fun rv w4=>HeldL Z g p.fac h r B w4/\∃er:Int,rv=.returned (.int .i64 er) /\
     ((er=0/\LayR Z fr N K p.fac i s h r w 0 w4)∨((er=4∨er=5)/\∀w5,Below w4.heap.size w4 w5 ->
      Calls prog 27 #[.pointer (some ⟨Z.S.c,0,none⟩)] w5 (fun r w'=>r=.returned (.pointer (some ⟨Z.S.P.p,0,none⟩))/\w5=w') /\
      Calls prog 21 #[.pointer (some ⟨Z.S.P.p,0,none⟩),.int .i64 (p.fac:Int),.int .i64 6,.int .i64 A] w5 fun rv w6=>rv=.returned (.int .i64 0)/\HeldL Z g p.fac h r B w6/\LayR Z fr N K p.fac i s h r w er w6))):=by
 have s1:=(hs.grown hb).sep;have Nw:Q1g 6=48:=costs_67.1;have AT:∃q∈Z.S.l,q.st=1/\(q.fac:Int)=(p.fac:Int):=⟨p,J4O hi,h1,rfl⟩
 have Am:=Q1p ok.inv.len hi;refine (Q5B (CO.sP (SP.sS s1)) ok.inv.mem.pool (p.fac:Int) 6).mono ?_;rintro rv w2 Hk;have zstep:∀{P':PL},P'.p=Z.S.P.p->Step Z.S.P.hl P'.hl w1 w2->Step Z.hl (Z.setS (Z.S.setP P') Z.tb).hl w w2:=fun {P'} e st=>(hs.grown hb).trans (SP.stepS s1 _ _ rfl (CO.stepP (SP.sS s1) P' e st))
 rcases Hk with ⟨Df,_⟩|⟨_,Aq,_⟩|⟨_,⟨e,he,A5⟩,rfl,st⟩|⟨n,ac,hk,SS,Tx,Fr,EU,ML⟩
 ·rw [Nw] at Df;omega
 ·obtain⟨e,he⟩:=Q8Y ok hi h1;rw [Aq] at he;cases he
 ·have st':=zstep rfl st;refine⟨(BT.step (SP.stepS s1 _ _ rfl (CO.stepP (SP.sS s1) Z.S.P rfl st))).held st'.sep,0,5,rfl,.inl ⟨.inr rfl,.inr ⟨.inr rfl,.inl ⟨rfl,e,he,?_⟩,Z.S.P,Tried.refl ok.inv.mem.pool _,st'⟩⟩⟩;rw [Nw] at A5;exact A5
 ·obtain rfl:n=6:=by omega
  rcases ML with ⟨A,P1,rfl,g6,st⟩|⟨Aq,rfl,st⟩
  ·have Gi:Step Z.hl (Z.setS (Z.S.setP P1) Z.tb).hl w w2:=zstep g6.p st;obtain⟨ok1,t1⟩:=TPX.got ok (t.x (p.fac:Int)) (.inl rfl) g6 AT;rw [if_neg (by decide),if_pos rfl] at t1;have al1:=Alt.got ok g6;have st1:Step Z.hl (Z.setS (Z.S.paid P1 (p.fac:Int) ((Q0c 6:Nat):Int)) Z.tb).hl w w2:=Gi;have Qf:A∈P1.usedOf 6:=by
    obtain⟨X,Y,_,e2⟩:=g6.used;rw [e2];simp
   have SI:=Q0n ok1.inv.mem.pool Qf;have GS:=Q0p ok1.inv.mem.pool;have Tu:A+Q0c 6<=P1.a.mem.length:=SI.1;have PM:P1.a.mem.length<=1073741824:=GS;have CL:BoxL (Z.setS (Z.S.paid P1 (p.fac:Int) ((Q0c 6:Nat):Int)) Z.tb) g x p.fac h r B w2:=BT.step (Z':=Z.setS (Z.S.paid P1 (p.fac:Int) ((Q0c 6:Nat):Int)) Z.tb) (SP.stepS s1 _ _ rfl (CO.stepP (SP.sS s1) P1 g6.p st));have C3:TblZ (Z.setS (Z.S.paid P1 (p.fac:Int) ((Q0c 6:Nat):Int)) Z.tb) p g w2:=hg.step (Z':=Z.setS (Z.S.paid P1 (p.fac:Int) ((Q0c 6:Nat):Int)) Z.tb) (SP.stepS s1 _ _ rfl (CO.stepP (SP.sS s1) P1 g6.p st)) g6.p;refine⟨CL.held st1.sep,(A:Int),0,rfl,.inr ⟨A,rfl,rfl,by omega,fun w3 Ar=>?_⟩⟩
   have st3:=st1.trans (st1.sep.grown Ar);have JE:=(C3.grown st1.sep Ar).c;have Iv:=CL.step (st1.sep.grown Ar);have B0:([]++((Z.tb i).setE s (some ⟨h,r,A⟩)).nds).Perm ([A]++(Z.tb i).nds):=TB.nds_set A7 (e:=⟨h,r,A⟩) h0;have Oy:Q0s (some (⟨h,r,A⟩:Ent))<18446744073709551616:=by
    show h+1+4294967296*r<_;omega
   refine (Z1O ok1 t1 (show (Z.S.paid P1 (p.fac:Int) ((Q0c 6:Nat):Int)).l[i]?=some p from hi) h1 h2 rfl A7 B0 Oy (by show A<_;omega) (SP.sS st3.sep) JE).mono ?_;rintro rv w4 (⟨rfl,By⟩|⟨F7,st,F1⟩)
   ·obtain⟨S',t',T,stt⟩:=By.turn t.full;have T0:=T.after al1;have stz:Step Z.hl (Z.setS S' (updT Z.tb i t')).hl w w4:=st3.trans (SP.stepS st3.sep S' (updT Z.tb i t') (T.alt.c) stt);refine⟨?_,0,rfl,.inl ⟨rfl,.inl ⟨rfl,A,S',t',T0,stz⟩⟩⟩;have AC:=Iv.step (SP.stepS st3.sep S' (updT Z.tb i t') T.alt.c stt);have:=AC.held stz.sep;exact⟨by rw [<- T0.alt.c];exact this.1,this.2⟩
   ·have st4:Step Z.hl (Z.setS (Z.S.paid P1 (p.fac:Int) ((Q0c 6:Nat):Int)) Z.tb).hl w w4:=st3.trans (SP.stepS st3.sep _ _ rfl st);have M7:=Iv.step (SP.stepS st3.sep (Z.S.paid P1 (p.fac:Int) ((Q0c 6:Nat):Int)) Z.tb rfl st);have Ai:∃er:Int,rv=.returned (.int .i64 er)/\(er=4∨er=5)/\WhyL Z fr p.fac i s er:=by
     rcases F1 with ⟨Aq,rfl⟩|⟨⟨e,he,A5⟩,rfl⟩
     ·exact⟨4,rfl,.inl rfl,.inr (.inr ⟨A,P1,g6,F7,.inr ⟨rfl,Aq⟩⟩)⟩
     ·exact⟨5,rfl,.inr rfl,.inr (.inr ⟨A,P1,g6,F7,.inl ⟨rfl,e,he,A5⟩⟩)⟩
    obtain⟨er,rfl,Cu,hw⟩:=Ai;refine⟨M7.held st4.sep,er,rfl,.inr ⟨Cu,fun w5 AL=>?_⟩⟩;have st5:=st4.trans (st4.sep.grown AL);have PY:=M7.step (st4.sep.grown AL);have km:=Q1A (SP.sS st5.sep);have He:(Z.S.paid P1 (p.fac:Int) ((Q0c 6:Nat):Int)).P.p=Z.S.P.p:=g6.p;refine⟨?_,?_⟩
    ·have:=km;rw [show ((Z.setS (Z.S.paid P1 (p.fac:Int) ((Q0c 6:Nat):Int)) Z.tb).S.P.p)=Z.S.P.p from g6.p] at this;exact this
    obtain⟨ac1,Ga⟩:=Q8Y ok1 (show (Z.S.paid P1 (p.fac:Int) ((Q0c 6:Nat):Int)).l[i]?=some p from hi) h1;have M9:=t1.paid ok1 Ga;rw [J4Z,J6B] at M9;obtain⟨c,hc⟩:=PL.cls ok1.inv.mem.pool (by omega:1<=6) (by omega);have kp:=Q4u (CO.sP (SP.sS st5.sep)) ok1.inv.mem.pool (p.fac:Int) Ga 6 (by rw [Q5a];omega) c hc A (by rw [<- Q0U hc];exact Qf) (by omega);rw [show ((Z.setS (Z.S.paid P1 (p.fac:Int) ((Q0c 6:Nat):Int)) Z.tb).S.P.p)=Z.S.P.p from g6.p] at kp;refine kp.mono ?_;rintro rv w6 ⟨rfl,P2,b6,stp⟩;have tr:Tried Z.S.P fr Z.S.l P2:=(g6.gotM ok.inv.mem.pool).back ok.inv.mem (b6.backM ok1.inv.mem.pool)
    have stz:Step Z.hl (Z.setS (Z.S.setP P2) Z.tb).hl w w6:=st5.trans (SP.stepS st5.sep _ _ rfl (CO.stepP (SP.sS st5.sep) P2 b6.p stp));have Pr:=PY.step (Z':=Z.setS (Z.S.setP P2) Z.tb) (SP.stepS st5.sep _ _ rfl (CO.stepP (SP.sS st5.sep) P2 b6.p stp));exact⟨rfl,Pr.held stz.sep,.inr ⟨Cu,hw,P2,tr,stz⟩⟩
  ·have st':=zstep rfl st;exact⟨(BT.step (SP.stepS s1 _ _ rfl (CO.stepP (SP.sS s1) Z.S.P rfl st))).held st'.sep,0,4,rfl,.inl ⟨.inl rfl,.inr ⟨.inl rfl,.inr (.inl ⟨rfl,Aq⟩),Z.S.P,Tried.refl ok.inv.mem.pool _,st'⟩⟩⟩
end Go.Proofs.YtfidemmgofcnmaaGreatDoor
