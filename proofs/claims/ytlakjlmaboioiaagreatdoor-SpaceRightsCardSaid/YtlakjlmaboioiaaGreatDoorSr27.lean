/- SpaceRights returns true at every input. No condition. Part of its proof. -/
import Derived.Test.YtlakjlmaboioiaaGreatDoorSr01
import Derived.Test.YtlakjlmaboioiaaGreatDoorSr26
import Derived.Test.YtlakjlmaboioiaaGreatDoorSr20
import Derived.Deep.CutRange
import Derived.Deep.LoopGhost
import Derived.Test.YtlakjlmaboioiaaGreatDoorSr16
import Derived.Test.YtlakjlmaboioiaaGreatDoorSr18
import Derived.Test.YtlakjlmaboioiaaGreatDoorSr21
import Derived.Test.YtlakjlmaboioiaaGreatDoorSr15
import Derived.Test.YtlakjlmaboioiaaGreatDoorSr22
set_option maxHeartbeats 4000000
set_option maxRecDepth 100000
set_option linter.unusedVariables false
namespace Go.Proofs.YtlakjlmaboioiaaGreatDoor
open Go.RowKit Go.Proofs.Tryz
def isK (l:List Pl) (k:Int) (h:Nat):Bool:=match pget l 1 h with
 | some p=>decide (k=0∨(p.kind:Int)=k)
 | none=>false
def Q1h (l:List Pl) (k:Int) (T:List Nat):List Nat:=T.filter (isK l k)
def nthV (l:List Pl) (k n:Int):Nat:=if (Q1h l k (allL l 1)).length=0∨n<0 then 0 else (Q1h l k (allL l 1)).getD (n%((Q1h l k (allL l 1)).length:Int)).toNat 0
theorem Q7u (l:List Pl) (k:Int) (T:List Nat) (y:Nat):Q1h l k (T++[y])=Q1h l k T++if isK l k y=true then [y] else []:=by
 unfold Q1h;rw [J3u];cases h:isK l k y <;> simp [h]
theorem Q4N (l:List Pl) (k:Int) (T:List Nat):(Q1h l k T).length<=T.length:=J3M _ _
theorem isK_iff {l:List Pl} {k:Int} {h:Nat}:isK l k h=true↔∃p,pget l 1 h=some p/\(k=0∨(p.kind:Int)=k):=by
 unfold isK;cases pget l 1 h with
 | none=>simp
 | some p=>simp
theorem Q8d {l:List Pl} (h:l.length=256):(allL l 1).length<=256:=by
 have:=Q2u l 1 l.length;unfold allL;rw [h] at this ⊢;exact this
theorem Z3y {l:List Pl} {k n:Int}:nthV l k n=0∨(∃p,pget l 1 (nthV l k n)=some p/\(k=0∨(p.kind:Int)=k)):=by
 unfold nthV;split
 ·exact .inl rfl
 ·rename_i h;have h1:=Int.emod_nonneg n (b:=((Q1h l k (allL l 1)).length:Int)) (by omega);have h2:=Int.emod_lt_of_pos n (b:=((Q1h l k (allL l 1)).length:Int)) (by omega);have hlt:(n%((Q1h l k (allL l 1)).length:Int)).toNat<(Q1h l k (allL l 1)).length:=by omega
  refine .inr ?_;rw [J5Z,J3O hlt,J4p];have hm:=J4T hlt;unfold Q1h at hm;exact isK_iff.1 (J1R.1 hm).2
theorem Q5c {l:List Pl} (lok:LOk l) {s h:Nat} {q:Pl} (hq:pget l s h=some q):h<4294967296:=by
 have h1:=pget_some.1 hq;have h2:=lok.2 q (Q0y hq);have:nm (h%256) q=h:=h1.2.1;unfold nm at this;omega
theorem J0h {l:List Pl} (lok:LOk l) (k n:Int):nthV l k n<4294967296:=by
 rcases Z3y (l:=l) (k:=k) (n:=n) with h|⟨p,hp,_⟩
 ·rw [h];omega
 ·exact Q5c lok hp
theorem J0i {w:World} {Z:SP} {fr:List Nat} {N K:Nat} {M:Int} (hs:Sep w Z.hl) (ok:Z.Ok fr N K M) (k n:Int) (hn:I64 n) :
  Calls prog 31 #[.pointer (some ⟨Z.s,0,none⟩),.int .i64 k,.int .i64 n] w (Told w (.int .u32 ((nthV Z.S.l k n:Nat):Int))):=by
 have hlok:=ok.core.inv.lok;have HObj:Hid (∀W,Below w.heap.size w W->Calls prog 29 #[.pointer (some ⟨Z.s,0,none⟩)] W fun r w'=>r=.returned (.pointer (some ⟨Z.S.c,0,none⟩))/\W=w'):=fun W hb=>Q2o (hs.grown hb).sep
 have HLive:Hid (∀W,Below w.heap.size w W->Calls prog 32 #[.pointer (some ⟨Z.S.c,0,none⟩)] W (NewHs W (allL Z.S.l 1))):=fun W hb=>Q6h (SP.sS (hs.grown hb).sep) hlok
 have HOf:Hid (∀y,y∈allL Z.S.l 1->∃a b c er:Int,((er==0)=isK Z.S.l k y)/\∀W,Below w.heap.size w W->Calls prog 30 #[.pointer (some ⟨Z.S.c,0,none⟩),.int .u32 y,.int .i64 k] W (Told W (.tuple #[.agg #[.int .i64 a,.int .i64 b,.int .i64 c],.int .i64 er]))):=fun y hy=>by
  obtain⟨p,hp⟩:=(Q2V (by rw [hlok.1];omega)).1 hy;have hlt:=Q5c hlok hp;by_cases hk:k=0∨(p.kind:Int)=k
  ·refine⟨_,_,_,0,?_,fun W hb=>Q2n (SP.sS (hs.grown hb).sep) hlok hlt k hp hk⟩;rw [isK_iff.2 ⟨p,hp,hk⟩];rfl
  ·refine⟨_,_,_,10,?_,fun W hb=>Q3j (SP.sS (hs.grown hb).sep) hlok hlt k hp (by omega) (by omega)⟩;unfold isK;rw [hp];show ((10:Int)==0)=decide (_∨_);rw [decide_eq_false hk];rfl
 have HTl:=Q0a (Q8d hlok.1);obtain⟨hn1,hn2⟩:=hn;have HV:Hid (nthV Z.S.l k n=if (Q1h Z.S.l k (allL Z.S.l 1)).length=0∨n<0 then 0 else (Q1h Z.S.l k (allL Z.S.l 1)).getD (n%((Q1h Z.S.l k (allL Z.S.l 1)).length:Int)).toNat 0):=rfl;clear hs ok hlok;generalize nthV Z.S.l k n=nv at *
 generalize hT:allL Z.S.l 1=T at *
 go_enter func31,ntmps31;go_wp2_with fail;refine (HObj.out _ (Below.refl _ _)).mono ?_;rintro rv w0 ⟨rfl,rfl⟩;go_wp2_with fail;refine (HLive.out _ (Below.refl _ _)).mono ?_;intro rv w1 hx1;obtain⟨a0,cap0,rfl,hb1,hih⟩:=hx1.shape;have HB1:=Q0a hb1;have HIh:=Q0a hih;clear hx1 hb1 hih HLive;go_wp2_with fail
 go_loopg [7,9] T.length (fun gk ov iv wr=>∃j:Nat,iv=.int .i64 j/\j+gk=T.length/\OutH w1 wr ov (Q1h Z.S.l k (T.take j)))
 case atStart=>exact⟨0,rfl,J4b _,OutH.nil w1⟩
 case round =>
  obtain⟨j,rfl,hkg,hout⟩:=hrel;have HO:=Q0a hout;have HKG:=Q0a hkg;clear hout;by_cases hlt:j<T.length
  ·obtain⟨y,hy⟩:∃y,T[j]?=some y:=⟨_,J3O hlt⟩
   obtain⟨g0,rfl,hg0,hgl,hcell⟩:=(HIh.out.below HO.out.2).at' j y hy;obtain⟨a,b,c,er,her,kof⟩:=HOf.out y (J3L hy);have hbw:Below w.heap.size w wr:=HB1.out.trans (HO.out.2.mono HB1.out.size);have HStep:Hid (Q1h Z.S.l k (T.take (j+1))=Q1h Z.S.l k (T.take j)++if isK Z.S.l k y=true then [y] else []):=by
    rw [J3t,hy];exact Q7u _ _ _ _
   have HY:=Q0a hy;have HKof:Hid (∀W,Below wr.heap.size wr W->Calls prog 30 #[.pointer (some ⟨Z.S.c,0,none⟩),.int .u32 y,.int .i64 k] W (Told W (.tuple #[.agg #[.int .i64 a,.int .i64 b,.int .i64 c],.int .i64 er]))):=fun W hb=>kof W (hbw.trans (hb.mono hbw.size))
   have HOb2:Hid (∀W,Below wr.heap.size wr W->Calls prog 29 #[.pointer (some ⟨Z.s,0,none⟩)] W fun r w'=>r=.returned (.pointer (some ⟨Z.S.c,0,none⟩))/\W=w'):=fun W hb=>HObj.out W (hbw.trans (hb.mono hbw.size))
   have HCl:Hid (∀W,Below wr.heap.size wr W->W.cell? ⟨g0,j,none⟩=some (.int .u32 y)):=fun W hb=>(World.cell?_of_block (w:=wr) (hb.block g0 hgl)).trans hcell
   have HOW:Hid (∀W,Below wr.heap.size wr W->OutH w1 W u7 (Q1h Z.S.l k (T.take j))):=fun W hb=>HO.out.below hb
   have hLn:(Q1h Z.S.l k (T.take j)).length<=16777216:=by
    have h1:=Q4N Z.S.l k (T.take j);rw [J3Q] at h1;have:=HTl.out;omega
   have HLn:=Q0a hLn;have HER:=Q0a her;have HBA:Hid (∀W,Below wr.heap.size wr W->∀o,Below wr.heap.size wr (W.alloc o)):=fun W hb o=>hb.alloc hb.size o
   have HD:Hid (Below wr.heap.size wr wr.drew):=(Below.refl _ _).drew;have hkb:(j:Int)<256:=by have:=HTl.out;omega
   have hk0:(0:Int)<=(j:Int):=by omega
   clear hy hkg her kof hbw HO HObj HOf hg0 hgl hLn;go_upto_region 6 with fail
   go_cut [11] from 22 to 31 (fun nn wc=>nn=.int .i64 er/\Below wr.heap.size wr wc)
   case first =>
    clear HStep HOW HLn HER HV HIh;have cD:wr.drew.cell? ⟨g0,j,none⟩=some (.int .u32 y):=hcell;have HKA:Hid (Calls prog 30 #[.pointer (some ⟨Z.S.c,0,none⟩),.int .u32 y,.int .i64 k] (wr.alloc (.cells #[.int .i64 0,.int .i64 0,.int .i64 0] 69)).drew fun r w4=>r=.returned (.tuple #[.agg #[.int .i64 a,.int .i64 b,.int .i64 c],.int .i64 er])/\Below wr.heap.size wr w4/\Cells w4 wr.heap.size 69 [.int .i64 0,.int .i64 0,.int .i64 0]):=
     (HKof.out _ (HBA.out _ (Below.refl _ _).drew _)).mono fun r w4 h=>⟨h.1,((HBA.out _ (Below.refl _ _).drew _)).trans (h.2.mono (by simp)),(Cells.new wr 69 [.int .i64 0,.int .i64 0,.int .i64 0]).same (h.2.block _ (by simp))⟩
    go_region_held3 (fun w'=>w'.cell? ⟨g0,j,none⟩=some (.int .u32 y))
     (first|exact hcell|exact cD|exact HCl.out _ (HBA.out _ HD.out _)|exact HCl.out _ HB4.out|exact HCl.out _ (HBA.out _ HB4.out _)|exact HCl.out _ (HB4.out.setCell (by simp) _)|exact HCl.out _ ((HB4.out.setCell (by simp) _).setCell (by simp) _)|exact HCl.out _ (((HB4.out.setCell (by simp) _).setCell (by simp) _).setCell (by simp) _))
     (first|(go_at_call 29;refine (HOb2.out _ (by first|exact HD.out|exact HBA.out _ HD.out _)).mono ?_;rintro rv w' ⟨rfl,rfl⟩)|(go_at_call 30;refine HKA.out.mono ?_;rintro rv w4 ⟨rfl,hb4,hc4⟩;have HB4:=Q0a hb4;have z0:=hc4.cell 0 _ rfl;have z1:=hc4.cell 1 _ rfl;have z2:=hc4.cell 2 _ rfl;have y0:=hc4.free 0;have y1:=hc4.free 1;have y2:=hc4.free 2;have HC4:=Q0a hc4;clear hb4 hc4)|(go_at_call 30;refine (HKof.out _ (by first|exact HD.out|exact HBA.out _ HD.out _)).mono ?_;rintro rv w4 ⟨rfl,hb4⟩;have HB4:=Q0a (HD.out.trans (hb4.mono HD.out.size));clear hb4))
    all_goals (go_wp2_with fail;go_meet;first|exact⟨rfl,HBA.out _ HB4.out _⟩|exact⟨rfl,((HB4.out.setCell (by simp) _).setCell (by simp) _).setCell (by simp) _⟩|exact⟨rfl,HB4.out⟩)
   obtain⟨rfl,hbc⟩:=hcut;have HBc:=Q0a hbc;have HOc:=Q0a (HOW.out wc hbc);have hcell2:=HCl.out wc hbc;clear hbc hcell HCl HOW HKof HOb2 HBA HD;have hER:=HER.out;cases hik:isK Z.S.l k y with
   | true =>
    rw [hik] at hER;have HSt:=HStep.out;rw [hik,if_pos rfl] at HSt;obtain⟨v',w',happ,ho'⟩:=HOc.out.app HLn.out y 66;have HO':=Q0a ho';have HSt2:=Q0a HSt;clear ho' HSt HStep HER HOc;go_wp2_with (at_builtin;refine Lib.wpList_append_run _ rfl _ _ _ _ rfl _ _ rfl rfl _ _ happ ?_);go_roundg (T.length-(j+1))
    case measure=>have:=HKG.out;omega
    case rel=>exact⟨j+1,by go_num,by omega,by rw [HSt2.out];exact HO'.out⟩
   | false =>
    rw [hik] at hER;have HSt:=HStep.out;rw [hik,if_neg (by decide),J3D] at HSt;have HSt2:=Q0a HSt;clear HSt HStep HER;go_wp2_with fail;go_roundg (T.length-(j+1))
    case measure=>have:=HKG.out;omega
    case rel=>exact⟨j+1,by go_num,by omega,by rw [HSt2.out];exact HOc.out⟩
  ·have hkl:j=T.length:=by have:=HKG.out;omega
   have hout:=HO.out;rw [hkl,J5G] at hout;have HBw:Hid (Below w.heap.size w wr):=HB1.out.trans (hout.2.mono HB1.out.size);have HLl:Hid ((Q1h Z.S.l k T).length<=256):=J1y (Q4N _ _ _) HTl.out;clear HO HObj HOf HIh HB1 hkg;generalize Q1h Z.S.l k T=L at *
   obtain⟨aL,cL,rfl⟩:=hout.shape;have HO:=Q0a hout;clear hout;by_cases h0:L.length=0
   ·have hv:nv=0:=by rw [HV.out,if_pos (.inl h0)]
    subst hv;have hz:((L.length:Nat):Int)=0:=by omega
    have hz2:(((L.length:Nat):Int)==0)=true:=by rw [hz];rfl
    clear HV;go_wp2_with fail
    first|exact⟨rfl,HBw.out⟩|(go_ret;exact⟨rfl,HBw.out⟩)
   ·have hz2:(((L.length:Nat):Int)==0)=false:=by rw [beq_eq_false_iff_ne];omega
    have hz3:((L.length:Nat):Int)≠0:=by omega
    have hz4:(0:Int)<((L.length:Nat):Int):=by omega
    by_cases hn0:n<0
    ·have hv:nv=0:=by rw [HV.out,if_pos (.inr hn0)]
     subst hv;have hd:decide (n<0)=true:=decide_eq_true hn0;clear HV;go_wp2_with fail
     first|exact⟨rfl,HBw.out⟩|(go_ret;exact⟨rfl,HBw.out⟩)
    ·have hd:decide (n<0)=false:=decide_eq_false hn0;have h1:=Int.emod_nonneg n (b:=(L.length:Int)) (by omega);have h2:=Int.emod_lt_of_pos n (b:=(L.length:Int)) (by omega);have hmod:n.tmod (L.length:Int)=(((n%(L.length:Int)).toNat:Nat):Int):=by
      rw [J3o (by omega),Int.toNat_of_nonneg h1]
     have hv:nv=L.getD (n%(L.length:Int)).toNat 0:=by rw [HV.out,if_neg (by omega)]
     have hi:(n%(L.length:Int)).toNat<L.length:=by omega
     generalize (n%(L.length:Int)).toNat=i at *
     rw [J5Z,J3O hi,J4p] at hv;have hLi:L[i]?=some nv:=by rw [hv];exact J3O hi
     clear hv HV h1 h2;have hne:L≠[]:=fun e=>h0 (by rw [e];rfl)
     obtain⟨gL,cL2,eL⟩:=HO.out.shape1 hne;cases eL;obtain⟨hcl,-,-⟩:=HO.out.cellAt hLi;have hw1:IntKind.i64.wrap ((i:Nat):Int)=(i:Int):=Go.IntWalk.i64_in _ (by have:=HLl.out;omega);have hji:(i:Int)<(L.length:Int):=by omega
     have hj0:(0:Int)<=(i:Int):=by omega
     clear hLi hne HO;go_wp2_with fail
     first|exact⟨rfl,HBw.out⟩|(go_ret;exact⟨rfl,HBw.out⟩)
theorem Z6u {w:World} {Z:SP} {fr:List Nat} {N K:Nat} {M:Int} (hs:Sep w Z.hl) (ok:Z.Ok fr N K M) :
  Calls prog 28 #[.pointer (some ⟨Z.s,0,none⟩)] w (NewHs w (Q1h Z.S.l 2 (allL Z.S.l 1))):=by
 have hlok:=ok.core.inv.lok;have HObj:Hid (∀W,Below w.heap.size w W->Calls prog 29 #[.pointer (some ⟨Z.s,0,none⟩)] W fun r w'=>r=.returned (.pointer (some ⟨Z.S.c,0,none⟩))/\W=w'):=fun W hb=>Q2o (hs.grown hb).sep
 have HLive:Hid (∀W,Below w.heap.size w W->Calls prog 32 #[.pointer (some ⟨Z.S.c,0,none⟩)] W (NewHs W (allL Z.S.l 1))):=fun W hb=>Q6h (SP.sS (hs.grown hb).sep) hlok
 have HOf:Hid (∀y,y∈allL Z.S.l 1->∃a b c er:Int,((er==0)=isK Z.S.l 2 y)/\∀W,Below w.heap.size w W->Calls prog 30 #[.pointer (some ⟨Z.S.c,0,none⟩),.int .u32 y,.int .i64 2] W (Told W (.tuple #[.agg #[.int .i64 a,.int .i64 b,.int .i64 c],.int .i64 er]))):=fun y hy=>by
  obtain⟨p,hp⟩:=(Q2V (by rw [hlok.1];omega)).1 hy;have hlt:=Q5c hlok hp;by_cases hk:(2:Int)=0∨(p.kind:Int)=2
  ·refine⟨_,_,_,0,?_,fun W hb=>Q2n (SP.sS (hs.grown hb).sep) hlok hlt 2 hp hk⟩;rw [isK_iff.2 ⟨p,hp,hk⟩];rfl
  ·refine⟨_,_,_,10,?_,fun W hb=>Q3j (SP.sS (hs.grown hb).sep) hlok hlt 2 hp (by omega) (by omega)⟩;unfold isK;rw [hp];show ((10:Int)==0)=decide (_∨_);rw [decide_eq_false hk];rfl
 have HTl:=Q0a (Q8d hlok.1);clear hs ok hlok;generalize hT:allL Z.S.l 1=T at *
 go_enter func28,ntmps28;go_wp2_with fail;refine (HObj.out _ (Below.refl _ _)).mono ?_;rintro rv w0 ⟨rfl,rfl⟩;go_wp2_with fail;refine (HLive.out _ (Below.refl _ _)).mono ?_;intro rv w1 hx1;obtain⟨a0,cap0,rfl,hb1,hih⟩:=hx1.shape;have HB1:=Q0a hb1;have HIh:=Q0a hih;clear hx1 hb1 hih HLive;go_wp2_with fail
 go_loopg [3,5] T.length (fun gk ov iv wr=>∃j:Nat,iv=.int .i64 j/\j+gk=T.length/\OutH w1 wr ov (Q1h Z.S.l 2 (T.take j)))
 case atStart=>exact⟨0,rfl,J4b _,OutH.nil w1⟩
 case round =>
  obtain⟨j,rfl,hkg,hout⟩:=hrel;have HO:=Q0a hout;have HKG:=Q0a hkg;clear hout;by_cases hlt:j<T.length
  ·obtain⟨y,hy⟩:∃y,T[j]?=some y:=⟨_,J3O hlt⟩
   obtain⟨g0,rfl,hg0,hgl,hcell⟩:=(HIh.out.below HO.out.2).at' j y hy;obtain⟨a,b,c,er,her,kof⟩:=HOf.out y (J3L hy);have hbw:Below w.heap.size w wr:=HB1.out.trans (HO.out.2.mono HB1.out.size);have HStep:Hid (Q1h Z.S.l 2 (T.take (j+1))=Q1h Z.S.l 2 (T.take j)++if isK Z.S.l 2 y=true then [y] else []):=by
    rw [J3t,hy];exact Q7u _ _ _ _
   have HY:=Q0a hy;have HKof:Hid (∀W,Below wr.heap.size wr W->Calls prog 30 #[.pointer (some ⟨Z.S.c,0,none⟩),.int .u32 y,.int .i64 2] W (Told W (.tuple #[.agg #[.int .i64 a,.int .i64 b,.int .i64 c],.int .i64 er]))):=fun W hb=>kof W (hbw.trans (hb.mono hbw.size))
   have HOb2:Hid (∀W,Below wr.heap.size wr W->Calls prog 29 #[.pointer (some ⟨Z.s,0,none⟩)] W fun r w'=>r=.returned (.pointer (some ⟨Z.S.c,0,none⟩))/\W=w'):=fun W hb=>HObj.out W (hbw.trans (hb.mono hbw.size))
   have HCl:Hid (∀W,Below wr.heap.size wr W->W.cell? ⟨g0,j,none⟩=some (.int .u32 y)):=fun W hb=>(World.cell?_of_block (w:=wr) (hb.block g0 hgl)).trans hcell
   have HOW:Hid (∀W,Below wr.heap.size wr W->OutH w1 W u3 (Q1h Z.S.l 2 (T.take j))):=fun W hb=>HO.out.below hb
   have hLn:(Q1h Z.S.l 2 (T.take j)).length<=16777216:=by
    have h1:=Q4N Z.S.l 2 (T.take j);rw [J3Q] at h1;have:=HTl.out;omega
   have HLn:=Q0a hLn;have HER:=Q0a her;have HBA:Hid (∀W,Below wr.heap.size wr W->∀o,Below wr.heap.size wr (W.alloc o)):=fun W hb o=>hb.alloc hb.size o
   have HD:Hid (Below wr.heap.size wr wr.drew):=(Below.refl _ _).drew;have hkb:(j:Int)<256:=by have:=HTl.out;omega
   have hk0:(0:Int)<=(j:Int):=by omega
   clear hy hkg her kof hbw HO HObj HOf hg0 hgl hLn;go_upto_region 6 with fail
   go_cut [7] from 18 to 26 (fun nn wc=>nn=.int .i64 er/\Below wr.heap.size wr wc)
   case first =>
    clear HStep HOW HLn HER HIh;have cD:wr.drew.cell? ⟨g0,j,none⟩=some (.int .u32 y):=hcell;have HKA:Hid (Calls prog 30 #[.pointer (some ⟨Z.S.c,0,none⟩),.int .u32 y,.int .i64 2] (wr.alloc (.cells #[.int .i64 0,.int .i64 0,.int .i64 0] 69)).drew fun r w4=>r=.returned (.tuple #[.agg #[.int .i64 a,.int .i64 b,.int .i64 c],.int .i64 er])/\Below wr.heap.size wr w4/\Cells w4 wr.heap.size 69 [.int .i64 0,.int .i64 0,.int .i64 0]):=
     (HKof.out _ (HBA.out _ (Below.refl _ _).drew _)).mono fun r w4 h=>⟨h.1,((HBA.out _ (Below.refl _ _).drew _)).trans (h.2.mono (by simp)),(Cells.new wr 69 [.int .i64 0,.int .i64 0,.int .i64 0]).same (h.2.block _ (by simp))⟩
    go_region_held3 (fun w'=>w'.cell? ⟨g0,j,none⟩=some (.int .u32 y))
     (first|exact hcell|exact cD|exact HCl.out _ (HBA.out _ HD.out _)|exact HCl.out _ HB4.out|exact HCl.out _ (HBA.out _ HB4.out _)|exact HCl.out _ (HB4.out.setCell (by simp) _)|exact HCl.out _ ((HB4.out.setCell (by simp) _).setCell (by simp) _)|exact HCl.out _ (((HB4.out.setCell (by simp) _).setCell (by simp) _).setCell (by simp) _))
     (first|(go_at_call 29;refine (HOb2.out _ (by first|exact HD.out|exact HBA.out _ HD.out _)).mono ?_;rintro rv w' ⟨rfl,rfl⟩)|(go_at_call 30;refine HKA.out.mono ?_;rintro rv w4 ⟨rfl,hb4,hc4⟩;have HB4:=Q0a hb4;have z0:=hc4.cell 0 _ rfl;have z1:=hc4.cell 1 _ rfl;have z2:=hc4.cell 2 _ rfl;have y0:=hc4.free 0;have y1:=hc4.free 1;have y2:=hc4.free 2;have HC4:=Q0a hc4;clear hb4 hc4)|(go_at_call 30;refine (HKof.out _ (by first|exact HD.out|exact HBA.out _ HD.out _)).mono ?_;rintro rv w4 ⟨rfl,hb4⟩;have HB4:=Q0a (HD.out.trans (hb4.mono HD.out.size));clear hb4))
    all_goals (go_wp2_with fail;go_meet;first|exact⟨rfl,HBA.out _ HB4.out _⟩|exact⟨rfl,((HB4.out.setCell (by simp) _).setCell (by simp) _).setCell (by simp) _⟩|exact⟨rfl,HB4.out⟩)
   obtain⟨rfl,hbc⟩:=hcut;have HBc:=Q0a hbc;have HOc:=Q0a (HOW.out wc hbc);have hcell2:=HCl.out wc hbc;clear hbc hcell HCl HOW HKof HOb2 HBA HD;have hER:=HER.out;cases hik:isK Z.S.l 2 y with
   | true =>
    rw [hik] at hER;have HSt:=HStep.out;rw [hik,if_pos rfl] at HSt;obtain⟨v',w',happ,ho'⟩:=HOc.out.app HLn.out y 66;have HO':=Q0a ho';have HSt2:=Q0a HSt;clear ho' HSt HStep HER HOc;go_wp2_with (at_builtin;refine Lib.wpList_append_run _ rfl _ _ _ _ rfl _ _ rfl rfl _ _ happ ?_);go_roundg (T.length-(j+1))
    case measure=>have:=HKG.out;omega
    case rel=>exact⟨j+1,by go_num,by omega,by rw [HSt2.out];exact HO'.out⟩
   | false =>
    rw [hik] at hER;have HSt:=HStep.out;rw [hik,if_neg (by decide),J3D] at HSt;have HSt2:=Q0a HSt;clear HSt HStep HER;go_wp2_with fail;go_roundg (T.length-(j+1))
    case measure=>have:=HKG.out;omega
    case rel=>exact⟨j+1,by go_num,by omega,by rw [HSt2.out];exact HOc.out⟩
  ·have hkl:j=T.length:=by have:=HKG.out;omega
   have hout:=HO.out;rw [hkl,J5G] at hout;have HR:Hid (NewHs w (Q1h Z.S.l 2 T) (.returned u3) wr):=⟨u3,rfl,Q1I hout.1 HB1.out.size,HB1.out.trans (hout.2.mono HB1.out.size)⟩
   clear hout HO HObj HOf HIh HB1 hkg;go_wp2_with fail
   first|exact HR.out|(go_ret;exact HR.out)
structure Able (S:CO) (f:Pl) (e:En Fa) (n:Nat) (lim:Int) (i:Nat) (p:Pl):Prop where
 kind:f.kind=1
 may:n=8∨1<=n/\n<=5
 acc:find S.P.q.E f.own=some e
 cost:((costK n:Nat):Int)<=Q0v e
 page:S.P.d.ps.length<2 ^ S.P.d.top
 place:Fst S.l i p
 lim:n=1->0<=lim/\lim<=Q0v e-64/\S.P.q.E.length<32
theorem MakeR.able {S:CO} {fr:List Nat} {h:Nat} {n:Nat} {lim:Int} {w w':World} {r:Ending} (m:MakeR S fr h (n:Int) lim w r w') {f:Pl} (hf:pget S.l 1 h=some f) {e:En Fa} {i:Nat} {p:Pl} (a:Able S f e n lim i p) :
  ∃b x P' fr',r=two (nm i p) 0/\MadeOk S fr f e n b lim x i p P' fr'/\Step S.hl (S.made f n b x i p P').hl w w':=by
 rcases m with ⟨h0,_⟩|⟨f',hf',hm⟩
 ·rw [hf] at h0;cases h0
 ·rw [hf] at hf';cases hf';rcases hm with ⟨h0,_⟩|⟨_,hc,_⟩|⟨n',e',hn,_,_,_,he,hk⟩
  ·exact absurd a.kind h0
  ·exfalso;have:=a.may;rcases hc with h1|⟨h1,h2⟩
   ·apply h1;omega
   ·have:=a.lim (by omega);omega
  ·have:n'=n:=by omega
   subst this;rw [a.acc] at he;cases he;rcases hk with ⟨h0,_⟩|⟨_,h0,_⟩|⟨_,er,P',hc,_⟩|⟨i',p',b,x,P',fr',h1,h2,h3,_,rfl,hm,st⟩
   ·have:=a.cost;omega
   ·have:=h0.len;have:=a.page;omega
   ·exfalso;obtain⟨p1,p2,p3⟩:=a.place;rcases hc with ⟨_,h1|⟨h1,h2⟩⟩|⟨_,h1,h2⟩
    ·exact h1 p (J3L p1) p2
    ·have:=a.lim h1;omega
    ·have:=a.lim h1;omega
   ·obtain⟨p1,p2,p3⟩:=a.place;have hi:i'=i:=by
     rcases J4y i' i with h|h|h
     ·exact absurd h2 (p3 i' p' h h1)
     ·exact h
     ·exact absurd p2 (h3 i p h p1)
    subst hi;rw [p1] at h1;cases h1;exact⟨b,x,P',fr',rfl,hm,st⟩
structure FO.New (q:FO):Prop where
 N:q.N=[]
 next:q.next=0
 ok:q.Ok
theorem Z8z {w:World} {H:HL} (h:Sep w H):Calls prog 72 #[] w fun r w'=>∃q:FO,r=.returned (.pointer (some ⟨q.f,0,none⟩))/\q.New/\Step H (q.hl++H) w w':=by
 have s1:=h.newMap;have s2:=s1.sep.newMap;have s3:=s2.sep.new 282 [.map (some w.heap.size),.map (some (w.alloc (.map #[] 0)).heap.size),.int .i64 0];have HQ:Hid (∃q:FO,q.f=((w.alloc (.map #[] 0)).alloc (.map #[] 0)).heap.size/\q.New/\Step H (q.hl++H) w (((w.alloc (.map #[] 0)).alloc (.map #[] 0)).alloc (.cells #[.map (some w.heap.size),.map (some (w.alloc (.map #[] 0)).heap.size),.int .i64 0] 282))):=by
  refine⟨⟨((w.alloc (.map #[] 0)).alloc (.map #[] 0)).heap.size,w.heap.size,(w.alloc (.map #[] 0)).heap.size,[],0,fun _=>none⟩,rfl,⟨rfl,rfl,⟨⟨List.Pairwise.nil,List.Pairwise.nil,J5B _,fun e h=>(by cases h),fun e h=>(by cases h),fun e h=>(by cases h),fun e h=>(by cases h),fun e h=>(by cases h),fun e h=>(by cases h)⟩,(by show (0:Int)<1099511627776;decide),fun e h=>(by cases h),J3z _⟩⟩,?_⟩;refine ((s1.trans s2).trans s3).perm (J4Q _) ?_;refine Q1d fun a=>?_
  simp only [FO.hl,FO.head,hc_append,hc_cons,kvs,okv,isMI,isMS,J4d,J5z];simp only [J0G];omega
 clear h s1 s2 s3;have hz1:(w.alloc (.map #[] 0)).heap.size=w.heap.size+1:=by simp
 have hz2:((w.alloc (.map #[] 0)).alloc (.map #[] 0)).heap.size=w.heap.size+1+1:=by simp
 rw [hz1,hz2] at HQ;have hmm:=@run_makeMap prog;go_enter func72,ntmps72;go_wp2_with fail;obtain⟨q,e,h1,h2⟩:=HQ.out;have e2:Ending.returned (.pointer (some ⟨w.heap.size+1+1,0,none⟩))=Ending.returned (.pointer (some ⟨q.f,0,none⟩)):=by rw [e]
 first|exact⟨q,e2,h1,h2⟩|(go_ret;exact⟨q,e2,h1,h2⟩)
structure SP.New (Z:SP) (S:CO) (tb:Nat->TB):Prop where
 S:Z.S=S
 tb:Z.tb=tb
 F:Z.F.New
theorem Z1N {w:World} {S:CO} (h:Sep w S.hl) (tb:Nat->TB):Calls prog 17 #[.pointer (some ⟨S.c,0,none⟩)] w fun r w'=>∃Z:SP,r=.returned (.pointer (some ⟨Z.s,0,none⟩))/\Z.New S tb/\Step S.hl Z.hl w w':=by
 have kf:=Z8z h;have HQ:Hid (∀(q:FO) (w1:World),q.New->Step S.hl (q.hl++S.hl) w w1->∃Z:SP,Z.s=w1.heap.size/\Z.New S tb/\Step S.hl Z.hl w (w1.alloc (.cells #[.pointer (some ⟨S.c,0,none⟩),.pointer (some ⟨q.f,0,none⟩)] 152))):=fun q w1 hq st=>by
  refine⟨⟨w1.heap.size,S,tb,q⟩,rfl,⟨rfl,rfl,hq⟩,?_⟩;refine (st.trans (st.sep.new 152 [ptr S.c,ptr q.f])).perm (J4Q _) ?_;refine Q1d fun a=>?_
  simp only [SP.hl,SP.head,hc_append,hc_cons];omega
 clear h;go_enter func17,ntmps17;go_wp2_with fail;refine kf.mono ?_;rintro r w1 ⟨q,rfl,hq,st⟩;obtain⟨Z,e,h1,h2⟩:=HQ.out q w1 hq st;have HZ:Hid (Z.New S tb/\Step S.hl Z.hl w (w1.alloc (.cells #[.pointer (some ⟨S.c,0,none⟩),.pointer (some ⟨q.f,0,none⟩)] 152))):=⟨h1,h2⟩
 clear hq st h1 h2 HQ kf;go_wp2_with fail;have e2:Ending.returned (.pointer (some ⟨w1.heap.size,0,none⟩))=Ending.returned (.pointer (some ⟨Z.s,0,none⟩)):=by rw [e]
 first|exact⟨Z,e2,HZ.out.1,HZ.out.2⟩|(go_ret;exact⟨Z,e2,HZ.out.1,HZ.out.2⟩)
theorem SP.New.ok {Z:SP} {S:CO} {tb:Nat->TB} (h:Z.New S tb) {fr:List Nat} {N K:Nat} (ok:S.Ok fr N K) (t:TPI S tb) (hn:∀i,i<256->(tb i).Nil):Z.Ok fr N K 0:=by
 have hnone:∀x s,Q0f S.l tb x s=none:=fun x s=>by
  unfold Q0f;split
  ·split
   ·rename_i hc;exact (hn _ (J4D _ (by omega))).2 s hc.2
   ·rfl
  ·rfl
 refine⟨by rw [h.S];exact ok,by rw [h.S,h.tb];exact t,?_,h.F.ok,by rw [h.F.next];exact J5B _⟩;rw [h.S,h.tb,h.F.N];exact⟨fun x s e he=>(by rw [hnone] at he;cases he),fun x s e he=>(by rw [hnone] at he;cases he),fun n hn=>(by cases hn),fun n hn=>by cases hn⟩
theorem TPI.emp {S:CO} {fr:List Nat} {N K:Nat} (ok:S.Ok fr N K) (h2:∀(i:Nat) (p:Pl),S.l[i]?=some p->¬(p.st=1/\p.kind=2)) (h7:S.P.usedOf 7=[]) (h6:S.P.usedOf 6=[]) (hx:∀id,S.xc id=0):TPI S fun _=>TB.emp:=by
 have l0:Q3e (fun _=>TB.emp)=[]:=by
  unfold Q3e;simp only [TB.emp_nil.lists.1];generalize List.range 256=L
  induction L with
  | nil=>rfl
  | cons a r ih=>rw [J1U,ih];rfl
 have n0:Q3Z (fun _=>TB.emp)=[]:=by
  unfold Q3Z;simp only [TB.emp_nil.lists.2.1];generalize List.range 256=L
  induction L with
  | nil=>rfl
  | cons a r ih=>rw [J1U,ih];rfl
 refine⟨fun i p hi h1 hk=>absurd ⟨h1,hk⟩ (h2 i p hi),fun i _=>TB.emp_nil.full,fun i p _ _=>TB.emp_nil,by rw [l0,h7],by rw [n0,h6],fun id=>?_⟩;rw [hx];unfold xcOf;have:∀i,xcP (fun _=>TB.emp) id i S.l[i]?=0:=fun i=>by
  unfold xcP;split
  ·split
   ·exact TB.emp_nil.lists.2.2
   ·rfl
  ·rfl
 simp only [this];generalize List.range 256=L
 induction L with
 | nil=>rfl
 | cons a r ih=>rw [J1A,J5j];omega
theorem Z8A (Q:List (Nat×Nat)) (n:Nat):(Q.filter fun q=>decide (q.1<n+1)).length=(Q.filter fun q=>decide (q.1<n)).length+(Q.filter fun q=>decide (q.1=n)).length:=by
 induction Q with
 | nil=>rfl
 | cons q r ih =>
  simp only [J5I];by_cases h1:q.1<n
  ·rw [if_pos (by simp;omega),if_pos (by simpa using h1),if_neg (by simp;omega)];simp only [J2i];omega
  ·by_cases h2:q.1=n
   ·rw [if_pos (by simp;omega),if_neg (by simpa using h1),if_pos (by simpa using h2)];simp only [J2i];omega
   ·rw [if_neg (by simp;omega),if_neg (by simpa using h1),if_neg (by simpa using h2)];exact ih
theorem Q6z {α:Type} (f:Nat->Option α) (m i:Nat) (Q:List (Nat×Nat)) (h:∀s,s<m->f s≠none->(i,s)∈Q):((List.range m).filterMap f).length<=(Q.filter fun q=>decide (q.1=i)).length:=by
 have e:((List.range m).filterMap f).length=(((List.range m).filter fun s=>(f s).isSome).map fun s=>(i,s)).length:=by
  rw [J3g];generalize List.range m=L
  induction L with
  | nil=>rfl
  | cons a r ih =>
   rw [J1K,J5I];cases f a with
   | none=>simpa using ih
   | some b=>simp [ih]
 rw [e];have hnd:(((List.range m).filter fun s=>(f s).isSome).map fun s=>(i,s)).Nodup:=by
  refine J2c.2 ((J5r.filter _).imp fun hne he=>hne ?_);exact (Prod.mk.inj he).2
 refine hnd.length_le_of_subset fun q hq=>?_
 obtain⟨s,hs,rfl⟩:=J1D.1 hq;obtain⟨h1,h2⟩:=J1R.1 hs;refine J1R.2 ⟨h s (J1N.1 h1) (fun h0=>by rw [h0] at h2;cases h2),by simp⟩
theorem Q5d (f:Nat->List Nat) (Q:List (Nat×Nat)):∀n,(∀i,i<n->(f i).length<=(Q.filter fun q=>decide (q.1=i)).length)->((List.range n).flatMap f).length<=(Q.filter fun q=>decide (q.1<n)).length
 | 0,_=>by simp
 | n+1,h=>by
  rw [J1I,J2f,J2h,Z8A];have h1:=Q5d f Q n fun i hi=>h i (by omega)
  have h2:=h n (by omega);simp only [J1U,J5z,J3D];omega
theorem Q9D {tb:Nat->TB} (Q:List (Nat×Nat)) (h:∀i s,i<256->s<256->(tb i).en s≠none->(i,s)∈Q):(Q3Z tb).length<=Q.length:=by
 refine J1y (Q5d _ Q 256 fun i hi=>?_) (J3M _ _);refine Q6z _ 256 i Q fun s hs h0=>h i s hi hs fun e=>h0 ?_
 rw [e];rfl
theorem Q9E {tb:Nat->TB} (hf:∀i,i<256->(tb i).Full) (Q:List (Nat×Nat)) (h:∀i s,i<256->s<256->(tb i).en s≠none->(i,s/16)∈Q):(Q3e tb).length<=Q.length:=by
 refine J1y (Q5d _ Q 256 fun i hi=>?_) (J3M _ _);refine Q6z _ 16 i Q fun k hk h0=>?_
 obtain⟨s,h1,h2,h3⟩:=hf i hi k hk fun e=>h0 (by rw [if_pos e])
 rw [<- h2];exact h i s hi h1 h3
theorem Z8V (l:List Pl) (tb:Nat->TB) (id:Int):∀n,((List.range n).map fun i=>xcP tb id i l[i]?).sum<=256*(((List.range n).flatMap fun i=>(tb i).lvs).length:Int)+48*(((List.range n).flatMap fun i=>(tb i).nds).length:Int)
 | 0=>by simp
 | n+1=>by
  have ih:=Z8V l tb id n;rw [J1I,J5a,J5l,J2f,J2f,J2h,J2h];simp only [J1A,J4d,J5j,List.sum_nil,J1U,J5z,J3D];have h1:xcP tb id n l[n]?<=(tb n).cost:=by
   have hc:=(tb n).cost_nn;unfold xcP;split
   ·split
    ·omega
    ·exact hc
   ·exact hc
  unfold TB.cost at h1;omega
theorem Z6v (l:List Pl) (tb:Nat->TB) (id:Int):xcOf l tb id<=256*((Q3e tb).length:Int)+48*((Q3Z tb).length:Int):=Z8V l tb id 256
theorem Z8B {P:PL} {fr:List Nat} (ok:P.Ok fr):P.d.ps.length<=fr.length+((List.range 8).map fun k=>(P.usedOf k).length).sum:=by
 rw [<- ok.pages.length_eq,J2h];have hnd:=(ok.pages.nodup_iff).2 ok.d.nd;have hpg:P.pages.Nodup:=(J2q.1 hnd).2.1;have h1:P.pages.length<=(((List.range 8).flatMap P.usedOf).map fun a=>a/1024).length:=by
  refine hpg.length_le_of_subset fun g hg=>?_
  obtain⟨k,a,ha,rfl⟩:=(Q4V ok g).1 hg;have:=Q1S ok ha;exact J1D.2 ⟨a,J1X.2 ⟨k,J1N.2 (by omega),ha⟩,rfl⟩
 rw [J3g,List.length_flatMap] at h1;omega
theorem Q9F:∀l:List Pl,(Q1Y l 8).length+(Q1Y l 1).length+(Q1Y l 2).length+(Q1Y l 3).length+(Q1Y l 4).length+(Q1Y l 5).length<=(l.filter Pl.is).length
 | []=>by simp [Q1Y]
 | p::r=>by
  have ih:=Q9F r;have step:∀k,(Q1Y (p::r) k).length=(Q1Y r k).length+if p.is=true/\p.kind=k then 1 else 0:=fun k=>by
   unfold Q1Y;rw [J1K];by_cases h:p.is=true/\p.kind=k
   ·rw [if_pos h];have:atsF k p=some p.at_:=by unfold atsF;simp [h.1,h.2]
    rw [this];rfl
   ·rw [if_neg h];have:atsF k p=none:=by
     unfold atsF;rw [if_neg]
     simpa using h
    rw [this];rfl
  rw [step,step,step,step,step,step,J5I];by_cases hi:p.is=true
  ·rw [if_pos hi,J2i];simp only [hi,true_and];by_cases h8:p.kind=8
   ·simp [h8];omega
   ·by_cases h1:p.kind=1
    ·simp [h1];omega
    ·by_cases h2:p.kind=2
     ·simp [h2];omega
     ·by_cases h3:p.kind=3
      ·simp [h3];omega
      ·by_cases h4:p.kind=4
       ·simp [h4];omega
       ·by_cases h5:p.kind=5
        ·simp [h5];omega
        ·simp [h8,h1,h2,h3,h4,h5];omega
  ·rw [if_neg hi];simp only [hi]
   simpa using ih
theorem Z3z {S:CO} {fr:List Nat} {N K:Nat} (ok:S.Ok fr N K):S.P.d.ps.length<=(S.l.filter Pl.is).length+(S.P.usedOf 7).length+(S.P.usedOf 6).length:=by
 have h1:=Z8B ok.inv.mem.pool;have h2:=Q9F S.l;have hf:(Q1Y S.l 8).length=fr.length:=by rw [ok.inv.mem.frs.length_eq,J3g]
 have hk:∀k,1<=k->k<=5->(Q1Y S.l k).length=(S.P.usedOf k).length:=fun k a b=>(ok.inv.mem.ats k a b).length_eq
 have h0:(S.P.usedOf 0).length=0:=by
  cases hu:S.P.usedOf 0 with
  | nil=>rfl
  | cons a r =>
   have:=Q1S ok.inv.mem.pool (k:=0) (a:=a) (by rw [hu];simp);omega
 have e:((List.range 8).map fun k=>(S.P.usedOf k).length).sum=(S.P.usedOf 0).length+((S.P.usedOf 1).length+((S.P.usedOf 2).length+((S.P.usedOf 3).length+((S.P.usedOf 4).length+((S.P.usedOf 5).length+((S.P.usedOf 6).length+((S.P.usedOf 7).length+0))))))):=rfl;have q1:=hk 1 (by omega) (by omega);have q2:=hk 2 (by omega) (by omega);have q3:=hk 3 (by omega) (by omega);have q4:=hk 4 (by omega) (by omega);have q5:=hk 5 (by omega) (by omega);omega
theorem J1a {Z:SP} {fr:List Nat} {N K:Nat} (ok:Z.S.Ok fr N K) (t:TPI Z.S Z.tb) {own:Int} {e:En Fa} (he:find Z.S.P.q.E own=some e) {i s:Nat} {er:Int} {o lv nd:Nat} (ho:(Z.S.l.filter Pl.is).length<=o) (hl:(Q3e Z.tb).length<=lv) (hn:(Q3Z Z.tb).length<=nd) (hp:o+lv+nd+1<64)
  (hq:Q0x Z.S.l own+256*(lv:Int)+48*(nd:Int)+304<=e.q.limit-e.q.given):¬WhyL Z fr own i s er:=by
 have hc:=Z3z ok;have h7:=t.lvs.length_eq;have h6:=t.nds.length_eq;have htop:=ok.inv.mem.pool.top;have hpow:64<=2 ^ Z.S.P.d.top:=J1y (by decide:64<=2 ^ 6) (J2L (by omega) htop);have hch:=ok.inv.tre.charged own e he;have hx:=Z6v Z.S.l Z.tb own;rw [t.xc] at hch;rintro (⟨_,e',he',hlow⟩|⟨_,hno⟩|⟨a,P1,g,_,⟨_,e',he',hlow⟩|⟨_,hno⟩⟩)
 ·rw [he] at he';cases he';unfold Q0v at hlow;omega
 ·have:=hno.page.len;omega
 ·obtain⟨e0,he0,_,hE⟩:=g.q;rw [he] at he0;cases he0;rw [hE] at he';have hf:=Q0h he {e.q with charged:=e.q.charged+((Q0c 6:Nat):Int)};rw [show ({Z.S.P.q with E:=upd Z.S.P.q.E own {e.q with charged:=e.q.charged+((Q0c 6:Nat):Int)}}:QT).E=upd Z.S.P.q.E own {e.q with charged:=e.q.charged+((Q0c 6:Nat):Int)} from rfl,hf] at he';cases he';unfold Q0v at hlow;simp only [Q4X] at hlow;omega
 ·have h1:=hno.page.len;have h2:=(g.gotM ok.inv.mem.pool).few;rw [g.top] at h1;omega
def Z0F (N:List (En Nd)) (x z:Int):Value:=match Z2Z N x z with
 | none=>.tuple #[.agg #[.int .i64 0,.int .i64 0],.bool false]
 | some p=>.tuple #[.agg #[.int .i64 p.1,.int .i64 p.2],.bool true]
def parV (N:List (En Nd)) (id:Int):Int:=match find N id with
 | none=>0
 | some n=>n.q.par
theorem Z0G {w:World} {q:FO} (h:Sep w q.hl) (id:Int):Calls prog 87 #[.pointer (some ⟨q.f,0,none⟩),.int .i64 id] w fun r w'=>r=.returned (.int .i64 (parV q.N id))/\w=w':=by
 unfold parV;cases hf:find q.N id with
 | none=>exact Q8T h hf
 | some e=>exact Q8S h hf
theorem Z3A {w:World} {q:FO} (h:Sep w q.hl) (id:Int):∃(a b:Int) (c:Bool),((find q.N id=none/\a=0/\b=0/\c=false)∨∃m,find q.N id=some m/\a=m.q.sp/\b=m.q.sl/\c=true)/\Calls prog 86 #[.pointer (some ⟨q.f,0,none⟩),.int .i64 id] w fun r w'=>r=.returned (.tuple #[.int .i64 a,.int .i64 b,.bool c])/\Below w.heap.size w w':=by
 cases hf:find q.N id with
 | none=>exact⟨0,0,false,.inl ⟨rfl,rfl,rfl,rfl⟩,(Q6i h hf).mono fun r w' ⟨h1,h2⟩=>⟨h1,h2 ▸ Below.refl _ _⟩⟩
 | some e=>exact⟨e.q.sp,e.q.sl,true,.inr ⟨e,rfl,rfl,rfl,rfl⟩,Q6j h hf⟩
theorem Q9G {w:World} {Z:SP} (hs:Sep w Z.hl) (ok:Z.F.Ok) {x z:Nat} (hx:x<4294967296) (hz:z<256) :
  Calls prog 22 #[.pointer (some ⟨Z.s,0,none⟩),.int .u32 x,.int .i64 z] w (Told w (Z0F Z.F.N (x:Int) (z:Int))):=by
 have b1:Below w.heap.size w (w.alloc (.cells #[.int .i64 0,.int .i64 0] 46)):=(Below.refl _ _).alloc (J1x _) _;have s1:=(hs.grown b1).sep;have c1:=SP.c1 s1;have c1d:(w.alloc (.cells #[.int .i64 0,.int .i64 0] 46)).drew.cell? ⟨Z.s,1,none⟩=some (.pointer (some ⟨Z.F.f,0,none⟩)):=c1;have g1:(0:Int)<=(x:Int):=by omega
 have g2:(x:Int)<9223372036854775808:=by omega
 have g3:(0:Int)<=(z:Int):=by omega
 have g4:(z:Int)<9223372036854775808:=by omega
 have kf:=Q4H (SP.sF s1.drew) ok (sp:=(x:Int)) (sl:=(z:Int)) (Q3k (p:=((x:Int),(z:Int))) g1 g2 g3 g4);clear g1 g2 g3 g4;have kp:=Z0G (SP.sF s1.drew) (ownN Z.F.N (x:Int) (z:Int));obtain⟨a,b,c,hcase,ko⟩:=Z3A (SP.sF s1.drew) (parV Z.F.N (ownN Z.F.N (x:Int) (z:Int)));have hv:Z0F Z.F.N (x:Int) (z:Int)=.tuple #[.agg #[.int .i64 a,.int .i64 b],.bool c]:=by
  unfold Z0F Z2Z;unfold parV at hcase;cases hf:find Z.F.N (ownN Z.F.N (x:Int) (z:Int)) with
  | none =>
   rw [hf] at hcase;simp only at hcase;rcases hcase with ⟨_,rfl,rfl,rfl⟩|⟨m,hm,_⟩
   ·rfl
   ·rw [ok.n.zero] at hm;cases hm
  | some n =>
   rw [hf] at hcase;simp only at hcase ⊢;rcases hcase with ⟨h0,rfl,rfl,rfl⟩|⟨m,hm,rfl,rfl,rfl⟩
   ·rw [h0];rfl
   ·rw [hm];rfl
 rw [hv];have HO:Hid (∀w1,Below (w.alloc (.cells #[.int .i64 0,.int .i64 0] 46)).drew.heap.size (w.alloc (.cells #[.int .i64 0,.int .i64 0] 46)).drew w1->w1.cell? ⟨Z.s,1,none⟩=some (.pointer (some ⟨Z.F.f,0,none⟩))/\Cells w1 w.heap.size 46 [.int .i64 0,.int .i64 0]/\∀u v,Below w.heap.size w ((w1.setCell ⟨w.heap.size,0,none⟩ u).setCell ⟨w.heap.size,1,none⟩ v)):=fun w1 hb=>by
  have hb':Below (w.alloc (.cells #[.int .i64 0,.int .i64 0] 46)).heap.size (w.alloc (.cells #[.int .i64 0,.int .i64 0] 46)) w1:=((Below.refl _ _).drew).trans hb;have hbz:Below w.heap.size w w1:=Q0e hb';exact⟨SP.c1 (hs.grown hbz).sep,(Cells.new w 46 [.int .i64 0,.int .i64 0]).same (hb'.block w.heap.size (by simp)),fun u v=>(hbz.setCell (J1x _) _).setCell (J1x _) _⟩
 generalize parV Z.F.N (ownN Z.F.N (x:Int) (z:Int))=pid at *
 generalize ownN Z.F.N (x:Int) (z:Int)=oid at *
 have hx0:(0:Int)<=(x:Int):=by omega
 have hx1:(x:Int)<4294967296:=by omega
 have hwx:IntKind.i64.wrap (x:Int)=(x:Int):=Go.IntWalk.i64_in _ (by omega);clear hs ok hx hz hcase hv b1 s1;go_enter func22,ntmps22;go_wp2_with fail
 go_region_held3 (fun w'=>w'.cell? ⟨Z.s,1,none⟩=some (.pointer (some ⟨Z.F.f,0,none⟩))) (first|exact c1|exact c1d|exact hcell)
  (first|(go_at_call 88;refine kf.mono ?_;rintro r w' ⟨rfl,rfl⟩)|(go_at_call 87;refine kp.mono ?_;rintro r w' ⟨rfl,rfl⟩)|(go_at_call 86;refine ko.mono ?_;rintro r w1 ⟨rfl,hb⟩;obtain⟨hcell,hres,hz⟩:=HO.out w1 hb;have HZ:=Q0a hz;have e0:=hres.cell 0 _ rfl;have e1:=hres.cell 1 _ rfl;have f0:=hres.free 0;have f1:=hres.free 1;have hlt:=hres.lt;clear hz hres hb HO))
 go_wp2_with fail;refine bodyPost_ret (v:=.tuple #[.agg #[.int .i64 a,.int .i64 b],.bool c]) (by simp [results,results22,go_sem,e0,e1]) rfl ⟨rfl,HZ.out _ _⟩
structure MkS (S:CO) (per:Nat) (limit ch:Int) (n N:Nat) (l:List Pl):Prop where
 ok:S.Ok [] N 0
 tpi:TPI S fun _=>TB.emp
 ts:S.ts=[]
 now:S.now=0
 per:S.period=per
 top:S.P.d.top=6
 ps:S.P.d.ps.length<=n
 q:∃b,S.P.q.E=[⟨0,b,⟨limit,ch,0,-1,0⟩⟩]
 l:S.l=l
def MkQ (c:Nat) (per:Nat) (limit ch:Int) (n N:Nat) (L:List Pl->Prop) (w0 wr:World):Prop:=∃S l,S.c=c/\L l/\MkS S per limit ch n N l/\Step [] S.hl w0 wr
theorem Z6w {a:Nat} {i:Nat} {p:Pl} (h:(newL a)[i]?=some p):¬(p.st=1/\p.kind=2):=by
 rcases Q2A (J3L h) with rfl|rfl
 ·simp
 ·simp [noPl]
theorem Z1O {S:CO} {limit:Int} {per:Nat} (f:Q9B S 6 limit per):MkS S per limit 64 1 1 (newL 64):=by
 refine⟨f.ok,TPI.emp f.ok (fun i p hi=>by rw [f.l] at hi;exact Z6w hi) (f.high 7 (by omega)) (f.high 6 (by omega)) (fun id=>by rw [f.xc]),f.ts,f.now,f.period,f.top,by rw [f.ps];simp,f.q,f.l⟩
theorem J0j {w w1:World} {S:CO} {limit:Int} {per:Nat} (f:Q9B S 6 limit per) (st:Step [] (S.hl++[]) w w1):MkQ S.c per limit 64 1 1 (fun l=>l=newL 64) w w1:=
 ⟨S,newL 64,rfl,rfl,Z1O f,by simpa using st⟩
theorem J0k {S:CO} {per n N:Nat} {limit ch:Int} {l:List Pl} (m:MkS S per limit ch n N l) {k i:Nat} (hk:2<=k/\k<=5) (hc:((costK k:Nat):Int)<=limit-ch) (hn:n<64) (hroot:l[0]?=some ⟨1,64,0,1,0,0⟩) (hi:Fst l i (noPl 0)) {w w':World} {r:Ending} (h:MakeR S [] 0 ((k:Nat):Int) 0 w r w') :
  ∃a x S',r=two i 0/\S'.c=S.c/\MkS S' per limit (ch+((costK k:Nat):Int)) (n+1) (N+1) (l.set i ⟨k,a,0,1,0,x⟩)/\Step S.hl S'.hl w w':=by
 obtain⟨b,hq⟩:=m.q;have hfe:find S.P.q.E 0=some ⟨0,b,⟨limit,ch,0,-1,0⟩⟩:=by rw [hq];rfl
 have hil:i<256:=by
  have:=(J1O.1 hi.1).1;have h2:=m.ok.inv.len;rw [m.l] at h2;omega
 have hpg:pget S.l 1 0=some ⟨1,64,0,1,0,0⟩:=by rw [m.l];exact pget_some.2 ⟨hroot,rfl,rfl⟩
 obtain⟨a,x,P',fr',rfl,hm,st⟩:=h.able (f:=⟨1,64,0,1,0,0⟩) hpg (e:=⟨0,b,⟨limit,ch,0,-1,0⟩⟩) (i:=i) (p:=noPl 0) ⟨rfl,.inr ⟨by omega,hk.2⟩,hfe,by show _<=limit-(ch+0);omega,by rw [m.top];have:=m.ps;show _<64;omega,by rw [m.l];exact hi,fun h=>by omega⟩;have hiS:S.l[i]?=some (noPl 0):=by rw [m.l];exact hi.1
 have hf:=hm.fac (by omega);have hfr:fr'=[]:=by
  have h1:=(hm.ok m.ok hiS).inv.mem.frs.length_eq;have e:Q1Y (S.made ⟨1,64,0,1,0,0⟩ k a x i (noPl 0) P').l 8=Q1Y S.l 8:=by
   have hp:=Q1z (l:=S.l) (i:=i) (p:=noPl 0) (q:=⟨k,a,0,1,(noPl 0).age,x⟩) (atsF 8) hiS (by unfold atsF;simp [Pl.is,noPl];omega);have h0:(Q1Y S.l 8).length=0:=by rw [m.ok.inv.mem.frs.length_eq];rfl
   have h2:=hp.length_eq;have e1:Q1Y S.l 8=[]:=J3w.1 h0;show (S.l.set i ⟨k,a,0,1,(noPl 0).age,x⟩).filterMap (atsF 8)=_;rw [e1];refine J3w.1 ?_;rw [h2];exact h0
  rw [e,m.ok.inv.mem.frs.length_eq] at h1;simp at h1;exact J3w.1 h1.symm
 subst hfr;refine⟨a,x,_,by rw [show nm i (noPl 0)=i by unfold nm noPl;simp],?_,⟨hm.ok m.ok hiS,m.tpi.made m.ok hm hiS rfl,m.ts,m.now,m.per,by show P'.d.top=6;rw [hm.same.top,m.top],by show P'.d.ps.length<=_;have:=hm.few;have:=m.ps;omega,⟨b,?_⟩,?_⟩,st⟩
 ·rfl
 ·show P'.q.E=_;rw [hf,hq];rfl
 ·show S.l.set i _=_;rw [m.l];rfl
theorem Z0H {c per n N:Nat} {limit ch:Int} {L:List Pl->Prop} {w0 wr:World} (h:MkQ c per limit ch n N L w0 wr) (k i:Nat) (hk:2<=k/\k<=5) (hc:((costK k:Nat):Int)<=limit-ch) (hn:n<64) (hN:N+1<1048576) (hL:∀l,L l->l[0]?=some ⟨1,64,0,1,0,0⟩/\Fst l i (noPl 0)) :
  Calls prog 16 #[.pointer (some ⟨c,0,none⟩),.int .u32 0,.int .i64 ((k:Nat):Int),.int .i64 0] wr fun r w'=>r=.returned (.tuple #[.int .u32 i,.int .i64 0])/\MkQ c per limit (ch+((costK k:Nat):Int)) (n+1) (N+1) (fun l'=>∃l a x,L l/\l'=l.set i ⟨k,a,0,1,0,x⟩) w0 w':=by
 obtain⟨S,l,rfl,hl,m,st⟩:=h;have:=Q6w st.sep m.ok (by omega) (x:=0) (by omega) ((k:Nat):Int) 0;refine this.mono ?_;intro r w' hr;obtain⟨a,x,S',rfl,ec,m',st'⟩:=J0k m hk hc hn (hL l hl).1 (hL l hl).2 hr;exact⟨rfl,S',_,ec,⟨l,a,x,hl,rfl⟩,m',st.trans st'⟩
structure MkZ (Z:SP) (per:Nat) (limit:Int) (N:Nat) (M:Int) (l:List Pl):Prop where
 ok:Z.Ok [] N 0 M
 ts:Z.S.ts=[]
 now:Z.S.now=0
 per:Z.S.period=per
 q:∃b ch,Z.S.P.q.E=[⟨0,b,⟨limit,ch,0,-1,0⟩⟩]
 l:Z.S.l=l
theorem J0l {Z:SP} {S:CO} {per n N:Nat} {limit ch:Int} {l:List Pl} (m:MkS S per limit ch n N l) (h:Z.New S fun _=>TB.emp):MkZ Z per limit N 0 l/\Z.av=⟨fun _ _=>none,[]⟩/\Z.F.next=0:=by
 obtain⟨b,hq⟩:=m.q;refine⟨⟨h.ok m.ok m.tpi fun i _=>TB.emp_nil,by rw [h.S];exact m.ts,by rw [h.S];exact m.now,by rw [h.S];exact m.per,⟨b,ch,by rw [h.S];exact hq⟩,by rw [h.S];exact m.l⟩,?_,h.F.next⟩;unfold SP.av avOf;rw [h.tb,h.F.N];congr 1;funext x s;unfold Q0f;split
 ·split
  ·rfl
  ·rfl
 ·rfl
theorem MkZ.same {Z Z':SP} {per N:Nat} {limit:Int} {M M':Int} {l:List Pl} (m:MkZ Z per limit N M l) (ok:Z'.Ok [] N 0 M') (s:SameN Z Z'):MkZ Z' per limit N M' l:=by
 obtain⟨b,ch,hq⟩:=m.q;refine⟨ok,by rw [s.alt.ts];exact m.ts,by rw [s.alt.now];exact m.now,by rw [s.alt.per];exact m.per,?_,by rw [s.alt.l];exact m.l⟩;obtain⟨e',he',hq'⟩:=s.alt.acc 0 ⟨0,b,⟨limit,ch,0,-1,0⟩⟩ (by rw [hq];rfl);have hid:=s.alt.ids;rw [hq] at hid;have h2:∃e,Z'.S.P.q.E=[e]:=by
  cases hE:Z'.S.P.q.E with
  | nil=>rw [hE] at hid;simp at hid
  | cons e r =>
   rw [hE] at hid;simp at hid;exact⟨e,by rw [hid.2]⟩
 obtain⟨e,hE⟩:=h2;rw [hE] at he' hid;have hid':e.id=0:=by simpa using hid
 have:e=e':=by
  unfold find at he';rw [if_pos hid'.symm] at he';exact J2u he'
 subst this;refine⟨e.b,e.q.charged,?_⟩;rw [hE];obtain⟨i,b2,q⟩:=e;simp only at hid' hq' ⊢;subst hid';rw [hq']
theorem SP.Ok.entries {Z:SP} {fr:List Nat} {N K:Nat} {M:Int} (ok:Z.Ok fr N K M) {i s:Nat} (hi:i<256) (hs:s<256) (h:(Z.tb i).en s≠none):∃x c,x%256=i/\Z.av.en x s=some c:=by
 obtain⟨p,hp⟩:∃p,Z.S.l[i]?=some p:=⟨_,J3O (by rw [ok.core.inv.len];exact hi)⟩
 by_cases hk:p.st=1/\p.kind=2
 ·cases he:(Z.tb i).en s with
  | none=>exact absurd he h
  | some e =>
   refine⟨nm i p,(e.h,e.r),Q1v hi p,Q8W ?_⟩;rw [Q0g (p:=p) (pget_some.2 ⟨by rw [Q1v hi];exact hp,by rw [Q1v hi],hk.1⟩) hk.2 hs,Q1v hi];exact he
 ·exact absurd ((ok.tpi.nil i p hp hk).2 s hs) h
theorem MkZ.room {Z:SP} {per N:Nat} {limit:Int} {M:Int} {l:List Pl} (m:MkZ Z per limit N M l) (E Q:List (Nat×Nat)) (hE:∀x s c,Z.av.en x s=some c->(x%256,s)∈E) (hQ:∀x s,(x,s)∈E->(x,s/16)∈Q) {o:Nat} (ho:(l.filter Pl.is).length<=o) (hp:o+Q.length+E.length+1<64) {cs:Int} (hcs:Q0x l 0=cs)
  (hq:cs+256*(Q.length:Int)+48*(E.length:Int)+304<=limit) {i s:Nat} {er:Int}:¬WhyL Z [] 0 i s er:=by
 obtain⟨b,ch,hb⟩:=m.q;have hfe:find Z.S.P.q.E 0=some ⟨0,b,⟨limit,ch,0,-1,0⟩⟩:=by rw [hb];rfl
 have ent:∀i s,i<256->s<256->(Z.tb i).en s≠none->(i,s)∈E:=fun i s hi hs h=>by
  obtain⟨x,c,hx,hc⟩:=m.ok.entries hi hs h;rw [<- hx];exact hE x s c hc
 refine J1a m.ok.core m.ok.tpi hfe (o:=o) (lv:=Q.length) (nd:=E.length) (by rw [m.l];exact ho) (Q9E m.ok.tpi.full Q fun i s hi hs h=>hQ i s (ent i s hi hs h)) (Q9D E ent) hp ?_;rw [m.l,hcs];show _<=limit-0;omega
def Z3B (o:Option (Nat×Nat)):Value:=match o with
 | none=>.tuple #[.agg #[.int .u32 0,.int .i64 0],.int .i64 6]
 | some c=>.tuple #[.agg #[.int .u32 (c.1:Int),.int .i64 (c.2:Int)],.int .i64 0]
section
variable {Z:SP} {fr:List Nat} {N K:Nat} {M:Int} {w w':World}
theorem RootR.fine {x h:Nat} {z r er:Int} (R:RootR Z fr N K M x z h r w er w') {p q:Pl} (hp:pget Z.S.l 1 x=some p) (hk:p.kind=2) (hz:0<=z/\z<256) (hq:pget Z.S.l 1 h=some q) (hr:0<r/\r<=15) (hm:q.kind=8↔128<=z) (h0:Z.av.en x z.toNat=none) (hw:∀er,¬WhyL Z fr p.fac (x%256) z.toNat er) :
  er=0/\Z9Y Z fr N K M x z.toNat h r.toNat 0 w w':=by
 have h0':=av_none.1 h0;rcases R with ⟨_,he,_⟩|⟨s,rn,p',q',rfl,rfl,hs,_,_,hp',_,_,_,_,hc⟩
 ·exfalso;rcases he with ⟨h1,_⟩|⟨p',h1,he⟩
  ·rw [hp] at h1;cases h1
  ·rw [hp] at h1;cases h1;rcases he with ⟨h2,_⟩|⟨_,he⟩
   ·exact h2 hk
   ·rcases he with ⟨h3,_⟩|⟨_,he⟩
    ·exact h3 hz
    ·rcases he with ⟨h4,_⟩|⟨q',h4,he⟩
     ·rw [hq] at h4;cases h4
     ·rw [hq] at h4;cases h4;rcases he with ⟨h5,_⟩|⟨_,h5,_⟩
      ·exact h5 ⟨hr,hm⟩
      ·exact h5 h0'
 ·rw [hp] at hp';cases hp';rw [J2C,J2C] at *
  rcases hc with ⟨h1,h2⟩|⟨_,h2,_⟩
  ·exact⟨h1,h2⟩
  ·exact absurd h2 (hw er)
theorem MoveR.fine {x y n:Nat} {A:Nat->Mv} {er:Int} (R:MoveR Z fr N K M x y n A w er w') {p1 p2:Pl} (hp1:pget Z.S.l 1 x=some p1) (hk1:p1.kind=2) (hp2:pget Z.S.l 1 y=some p2) (hk2:p2.kind=2) (hfit:AllFit Z.av.en x y n A) (hw:∀er,¬WhyM Z fr N K x y n p2.fac A er) :
  er=0/\MovedZ Z fr N K M x y n A w w':=by
 rcases R with ⟨hne,he,_⟩|⟨q1,q2,h1,_,h2,_,_,hc⟩
 ·exfalso;rcases he with ⟨h1,_⟩|⟨q1,h1,he⟩
  ·rw [hp1] at h1;cases h1
  ·rw [hp1] at h1;cases h1;rcases he with ⟨h2,_⟩|⟨_,he⟩
   ·exact h2 hk1
   ·rcases he with ⟨h3,_⟩|⟨q2,h3,he⟩
    ·rw [hp2] at h3;cases h3
    ·rw [hp2] at h3;cases h3;rcases he with ⟨h4,_⟩|⟨_,i,hi,_,hv⟩
     ·exact h4 hk2
     ·have:=(Z1F (N:=Z.F.N) (tb:=Z.tb) hp1 hk1 hp2 hk2 (m:=A i) (cl:=Q1u A i (A i))).2 (hfit i hi);unfold fitV at hv;rw [this] at hv;exact hne hv.symm
 ·rw [hp1] at h1;cases h1;rw [hp2] at h2;cases h2;rcases hc with ⟨h1,h2⟩|⟨_,h2,_⟩
  ·exact⟨h1,h2⟩
  ·exact absurd h2 (hw er)
theorem Q7v {en:Nat->Nat->Option (Nat×Nat)} {x y:Nat} {m:Mv} (h:FitM en x y m):AllFit en x y 1 (fun _=>m):=fun i hi=>by
 obtain rfl:i=0:=by omega
 exact⟨h,rfl⟩
theorem Z1P {x y:Nat} {m:Mv} {own:Int} {er:Int} (h:WhyM Z fr N K x y 1 own (fun _=>m) er):WhyL Z fr own (y%256) m.dst.toNat er:=by
 obtain⟨k,S',t',hk,_,h0,hw⟩:=h;obtain⟨rfl,rfl⟩:=h0 (by omega);rw [Q1k] at hw;exact hw
theorem MovedZ.one {x y:Nat} {m:Mv} (h:MovedZ Z fr N K M x y 1 (fun _=>m) w w') (hg:m.g=false):∃(Z':SP) (c:Nat×Nat) (b:Nat),Z.av.en x m.src.toNat=some c/\Z'.av=⟨setA Z.av.en y m.dst.toNat (some (c.1,c.2&&&m.r.toNat)),addN Z.av.N (ownN Z.av.N (x:Int) m.src) (Z.F.next+1) b (y:Int) m.dst⟩/\Z'.Ok fr N K (M+1)/\SameN Z Z'/\Z'.F.next=Z.F.next+1/\Step Z.hl Z'.hl w w':=by
 obtain⟨a,Z',h1,h2,h3,h4,h5,h6⟩:=h;cases h1 with
 | succ k a0 c b h1 hc hn =>
  cases h1
  have e2:Z'.av=⟨setA Z.av.en y m.dst.toNat (some (c.1,c.2&&&m.r.toNat)),addN Z.av.N (ownN Z.av.N (x:Int) m.src) (Z.F.next+1) b (y:Int) m.dst⟩:=by
   generalize hz:Z'.av=az at h2;cases h2 with
   | skip k a' h2 _=>cases h2;simp
   | lift k a' a'' h2 hg' _=>rw [hg] at hg';cases hg'
  exact⟨Z',c,b,hc,e2,h3,h4,h5,h6⟩
theorem MovedZ.grant {x y:Nat} {m:Mv} (h:MovedZ Z fr N K M x y 1 (fun _=>m) w w') (hg:m.g=true):∃(Z':SP) (c:Nat×Nat) (b:Nat) (a:AV),Z.av.en x m.src.toNat=some c/\Z.av.en y m.dst.toNat=none/\a=⟨setA Z.av.en y m.dst.toNat (some (c.1,c.2&&&m.r.toNat)),addN Z.av.N (ownN Z.av.N (x:Int) m.src) (Z.F.next+1) b (y:Int) m.dst⟩/\weak1 15 a (ownN a.N (x:Int) m.src)=(Z'.av,true)/\Z'.Ok fr N K (M+1)/\SameN Z Z'/\Z'.F.next=Z.F.next+1/\Step Z.hl Z'.hl w w':=by
 obtain⟨a,Z',h1,h2,h3,h4,h5,h6⟩:=h;cases h1 with
 | succ k a0 c b h1 hc hn =>
  cases h1
  refine⟨Z',c,b,⟨setA Z.av.en y m.dst.toNat (some (c.1,c.2&&&m.r.toNat)),addN Z.av.N (ownN Z.av.N (x:Int) m.src) (Z.F.next+1) b (y:Int) m.dst⟩,hc,hn,rfl,?_,h3,h4,h5,h6⟩;generalize hz:Z'.av=az at h2;cases h2 with
  | skip k a' h2 hg'=>rw [hg] at hg';cases hg'
  | lift k a' a'' h2 hg' hw =>
   cases h2
   simpa using hw
theorem RevR.fine {x:Nat} {z mask:Int} {self:Bool} {r:Ending} (R:RevR Z fr N K M x z mask self w r w') {p:Pl} (hp:pget Z.S.l 1 x=some p) (hk:p.kind=2) (hz:0<=z/\z<256) (hm:0<mask/\mask<=15) {c:Nat×Nat} (hc:Z.av.en x z.toNat=some c) :
  ∃n∈Z.F.N,n.q.sp=(x:Int)/\n.q.sl=z/\r=.returned (.tuple #[.int .i64 ((Q0M mask.toNat Z.av (revL Z.F n.id self)).2:Nat),.int .i64 0])/\∃Z',Z'.Ok fr N K M/\Z'.av=(Q0M mask.toNat Z.av (revL Z.F n.id self)).1/\SameZ Z Z'/\Step Z.hl Z'.hl w w':=by
 obtain⟨e,he,_⟩:=Q3l hc;rcases R with ⟨er,_,_,hc⟩|⟨s,m,n,en,rfl,rfl,_,_,_,_,hn,h1,h2,hr,hw⟩
 ·exfalso;rcases hc with ⟨h1,_⟩|⟨p',h1,hc⟩
  ·rw [hp] at h1;cases h1
  ·rw [hp] at h1;cases h1;rcases hc with ⟨h2,_⟩|⟨_,h2,_⟩|⟨_,h2,h3,_⟩|⟨_,_,_,h3,_⟩
   ·exact h2 hk
   ·exact h2 hz
   ·exact h3 hm
   ·rw [he] at h3;cases h3
 ·rw [J2C];exact⟨n,hn,h1,h2,hr,hw⟩
theorem Z8C {x:Nat} {z:Int} {p:Pl} (hp:pget Z.S.l 1 x=some p) (hk:p.kind=2) (hz:0<=z/\z<256):Q6F Z.S.l Z.tb x z=Z3B (Z.av.en x z.toNat):=by
 unfold Q6F;rw [hp];simp only;rw [if_pos hk,if_pos hz];show _=Z3B ((Q0f Z.S.l Z.tb x z.toNat).map Ent.c);cases Q0f Z.S.l Z.tb x z.toNat <;> rfl
theorem Q7w {H:HL} (hs:Sep w H) (m:Mv) (hm:m.Wf):AsideM H 1 (fun _=>m) (some ⟨w.heap.size,0,none⟩) (w.alloc (.cells #[.int .i64 m.src,.int .i64 m.dst,.int .i64 m.r,.bool m.g] 39)):=by
 refine⟨fun j hj=>⟨w.heap.size,0,rfl,by simp,fun i v hv=>?_,hm⟩,fun a _ ha hk=>?_⟩
 ·obtain rfl:j=0:=by omega
  have:=(Cells.new w 39 m.cells).cell i v hv;have e:0+0*4+i=i:=by omega
  rw [e];exact this
 ·cases ha
  have:=hs.lt hk;simp at this
end
end Go.Proofs.YtlakjlmaboioiaaGreatDoor
