/- SpaceRights returns true at every input. No condition. Part of its proof. -/
import Derived.Test.YtlakjlmaboioiaaGreatDoorSr01
import Derived.Test.YtlakjlmaboioiaaGreatDoorSr12
import Derived.Test.YtlakjlmaboioiaaGreatDoorSr08
import Derived.Deep.MidRow
import Derived.Test.YtlakjlmaboioiaaGreatDoorSr10
import Derived.Deep.LoopGhost
set_option maxHeartbeats 4000000
set_option maxRecDepth 100000
set_option linter.unusedVariables false
namespace Go.Proofs.YtlakjlmaboioiaaGreatDoor
open Go.RowKit Go.Proofs.Tryz
theorem TblC.alt {S S':CO} {p:Pl} {g:Nat} {w w':World} {own:Int} (h:TblC S p g w) (al:Alt S S' own) (st:Step S.hl S'.hl w w'):TblC S' p g w':=by
 unfold TblC;rw [al.same.p];exact AsideV.step h st
theorem Q1b (tb:Nat->TB) (i:Nat) (a b:TB):updT (updT tb i a) i b=updT tb i b:=by
 funext j;unfold updT;split <;> rfl
theorem Z7H {m:List Nat} {a n j:Nat} (h:a+n<=m.length) (h1:a<=j) (h2:j<a+n):(put_ m a (List.replicate n 0))[j]?=some 0:=by
 unfold put_;rw [J2x,J4L (by rw [J3Q];omega),J3Q,J4V (by omega),J4K (by rw [J1H];omega),J3y,if_pos (by omega)]
def Put1 (S:CO) (fr:List Nat) (N K:Nat) (tb:Nat->TB) (own:Int) (xl xn:List Nat) (i s:Nat) (o:Option Ent) (w w':World):Prop:=
 ∃(S':CO) (t':TB),S'.Ok fr N K/\TPX S' (updT tb i t') own xl xn/\(∀x,t'.en x=if x=s then o else (tb i).en x)/\((tb i).Full->t'.Full)/\(∀k,(tb i).lf k=0∨t'.lf k=0∨t'.lf k=(tb i).lf k)/\Alt S S' own/\Step S.hl S'.hl w w'
def SetR (S:CO) (fr:List Nat) (N K:Nat) (tb:Nat->TB) (own:Int) (xl xn:List Nat) (i s:Nat) (o:Option Ent) (w:World) (r:Ending) (w':World):Prop:=
 (r=.returned (.int .i64 0)/\Put1 S fr N K tb own xl xn i s o w w') ∨
 ((tb i).lf (s/16)=0/\Step S.hl S.hl w w'/\((NoRoom S.P 7/\r=.returned (.int .i64 4))∨((∃e,find S.P.q.E own=some e/\e.q.limit-(e.q.charged+e.q.given)<256)/\r=.returned (.int .i64 5))))
theorem Z1s {t:TB} {s:Nat} {e:Ent} {t':TB} (hs:s<256) (hl:∀k,k<16->t'.lf k≠0->t.lf k≠0∨k=s/16) (he:∀x,t'.en x=if x=s then some e else t.en x) (h:t.Full):t'.Full:=by
 intro k hk h0;by_cases hks:k=s/16
 ·exact⟨s,hs,hks.symm,by rw [he,if_pos rfl];simp⟩
 ·obtain⟨x,hx,e1,e2⟩:=h k hk ((hl k hk h0).resolve_right hks);refine⟨x,hx,e1,?_⟩;rw [he];split
  ·simp
  ·exact e2
section
variable {S:CO} {fr:List Nat} {N K:Nat} {tb:Nat->TB} {own:Int} {xl xn xn':List Nat}
theorem Q6d (ok:S.Ok fr N K) (t:TPX S tb own xl xn) {i s:Nat} {p:Pl} (hi:S.l[i]?=some p) (h1:p.st=1) (h2:p.kind=2) (hown:(p.fac:Int)=own) (hs:s<256) (hl:(tb i).lf (s/16)≠0) {e:Ent} (hn:(xn'++((tb i).setE s (some e)).nds).Perm (xn++(tb i).nds))
  (hA:Q0s (some e)<18446744073709551616) (hB:Q0U (some e)<18446744073709551616) {w:World} (hsep:Sep w S.hl) :
  Calls prog 158 #[.pointer (some ⟨S.P.a.a,0,none⟩),.int .i64 (((tb i).lf (s/16)+16*(s%16):Nat):Int),.slice (some ⟨w.heap.size,0,none⟩) 2 2] (w.alloc (.cells #[.int .u64 (Q0s (some e):Nat),.int .u64 (Q0U (some e):Nat)] 171)) fun r w' =>
   r=.returned (.int .i64 0)/\Put1 S fr N K tb own xl xn' i s (some e) w w':=by
 refine (Q4c ok t hi h1 h2 hown hs hl hn hA hB hsep).mono ?_;rintro r w' ⟨rfl,S',ok',t',al,st⟩;exact⟨rfl,S',_,ok',t',fun _=>rfl,Z1s hs (fun k _ h=>.inl h) fun _=>rfl,fun _=>.inr (.inr rfl),al,st⟩
theorem Z7I (ok:S.Ok fr N K) (t:TPX S tb own xl xn) {i s:Nat} {p:Pl} (hi:S.l[i]?=some p) (h1:p.st=1) (h2:p.kind=2) (hown:(p.fac:Int)=own) (hs:s<256) (hl:(tb i).lf (s/16)≠0) {e:Ent} (hn:(xn'++((tb i).setE s (some e)).nds).Perm (xn++(tb i).nds))
  (hA:Q0s (some e)<18446744073709551616) (hB:Q0U (some e)<18446744073709551616) {w:World} {g:Nat} (hsep:Sep w S.hl) (hg:TblC S p g w) :
  Calls prog 104 #[.pointer (some ⟨g,0,none⟩),.int .i64 s,.int .u64 (Q0s (some e):Nat),.int .u64 (Q0U (some e):Nat)] w (SetR S fr N K tb own xl xn' i s (some e) w):=by
 have hi256:=Q1o ok.inv.len hi;have T:=t.tt ok hi h1 h2 hsep hg;have hL:=t.leaf hi256 (by omega:s/16<16) hl;have hm:=Q0m ok.inv.mem.pool hL;have hb:=Q0p ok.inv.mem.pool;have c0:=hg.c0;have km:=Q5B w (s:Int);rw [decide_eq_true (show 0<=(s:Int)/\(s:Int)<256 from ⟨by omega,by omega⟩)] at km;have kl:=Q4D T s hs;have ka:=Q1e (CO.sP hsep);have ks:=Q3i w ((tb i).lf (s/16)) s (by omega) hs;have HX:Hid (Calls prog 158 #[.pointer (some ⟨S.P.a.a,0,none⟩),.int .i64 (((tb i).lf (s/16)+16*(s%16):Nat):Int),.slice (some ⟨w.heap.size,0,none⟩) 2 2] (w.alloc (.cells #[.int .u64 (Q0s (some e):Nat),.int .u64 (Q0U (some e):Nat)] 171)) fun r w' =>
   r=.returned (.int .i64 0)/\SetR S fr N K tb own xl xn' i s (some e) w (.returned (.int .i64 0)) w'):=by
  refine (Q6d ok t hi h1 h2 hown hs hl hn hA hB hsep).mono ?_;rintro r w' ⟨rfl,h⟩;exact⟨rfl,.inl ⟨rfl,h⟩⟩
 have hx0:Q0s (some e)≠0:=fun h=>by simpa using codeA_zero.1 h
 have hne:(((Q0s (some e):Nat):Int)==0)=false:=by simpa using hx0
 have hne2:((((tb i).lf (s/16):Nat):Int)==0)=false:=by simpa using hl
 generalize SetR S fr N K tb own xl xn' i s (some e) w=Q at *
 unfold ptr at *
 generalize Q0s (some e)=x at *
 generalize Q0U (some e)=y at *
 generalize ((tb i).lf (s/16)+16*(s%16):Nat)=u at *
 generalize (tb i).lf (s/16)=L at *
 clear ok t hi T hL hm hn hsep hg hown h1 h2 hl hx0;go_enter func104,ntmps104;go_wp2_with fail;refine km.mono ?_;rintro e w' ⟨rfl,rfl⟩;go_wp2_with fail;refine kl.mono ?_;rintro e w' ⟨rfl,rfl⟩;go_wp2_with fail;refine ka.mono ?_;rintro e w' ⟨rfl,rfl⟩;go_wp2_with fail;refine ks.mono ?_;rintro e w' ⟨rfl,rfl⟩;go_wp2_with fail;refine HX.out.mono ?_;rintro e w' ⟨rfl,hy⟩;have HY:=Q0a hy;clear hy HX;go_wp2_with fail
 first|exact HY.out|(go_ret2;exact HY.out)
theorem Z7J (ok:S.Ok fr N K) (t:TPX S tb own xl xn) {i s:Nat} {p:Pl} (hi:S.l[i]?=some p) (h1:p.st=1) (h2:p.kind=2) (hown:(p.fac:Int)=own) (hs:s<256) (hl:(tb i).lf (s/16)=0) {ac:En Fa} (hac:find S.P.q.E own=some ac) {e:Ent} (hn:(xn'++((tb i).setE s (some e)).nds).Perm (xn++(tb i).nds))
  (hA:Q0s (some e)<18446744073709551616) (hB:Q0U (some e)<18446744073709551616) {w:World} {g:Nat} (hsep:Sep w S.hl) (hg:TblC S p g w) :
  Calls prog 104 #[.pointer (some ⟨g,0,none⟩),.int .i64 s,.int .u64 (Q0s (some e):Nat),.int .u64 (Q0U (some e):Nat)] w (SetR S fr N K tb own xl xn' i s (some e) w):=by
 have hi256:=Q1o ok.inv.len hi;have T:=t.tt ok hi h1 h2 hsep hg;have km:=Q5B w (s:Int);rw [decide_eq_true (show 0<=(s:Int)/\(s:Int)<256 from ⟨by omega,by omega⟩)] at km;have kl:=Q4D T s hs;rw [hl] at kl;have c0:=hg.c0;have c1:=hg.c1;have d0:w.drew.cell? ⟨g,0,none⟩=some (.pointer (some ⟨S.P.p,0,none⟩)):=c0;have d1:w.drew.cell? ⟨g,1,none⟩=some (.int .i64 (p.fac:Int)):=c1;have hc7:Q1g 7=256:=costs_67.2;have HG:Hid (Calls prog 65 #[.pointer (some ⟨S.P.p,0,none⟩),.int .i64 (p.fac:Int),.int .i64 7] w.drew fun r w1 =>
   (w1.cell? ⟨g,0,none⟩=some (.pointer (some ⟨S.P.p,0,none⟩))/\w1.cell? ⟨g,1,none⟩=some (.int .i64 (p.fac:Int))) /\
   ∃a er:Int,r=.returned (.tuple #[.int .i64 a,.int .i64 er])/\(((er=4∨er=5)/\SetR S fr N K tb own xl xn' i s (some e) w (.returned (.int .i64 er)) w1) ∨
    (∃L:Nat,a=(L:Int)/\er=0/\(0<L/\L<=1073741824) /\
    Calls prog 155 #[.pointer (some ⟨S.P.p,0,none⟩)] w1 (fun r w'=>r=.returned (.pointer (some ⟨S.P.a.a,0,none⟩))/\w1=w') /\
    Calls prog 181 #[.pointer (some ⟨g,0,none⟩),.int .i64 s] w1 (fun r w'=>r=.returned (.int .i64 ((p.at_+8*(s/16):Nat):Int))/\w1=w') /\
    Calls prog 158 #[.pointer (some ⟨S.P.a.a,0,none⟩),.int .i64 ((p.at_+8*(s/16):Nat):Int),.slice (some ⟨w1.heap.size,0,none⟩) 1 1] (w1.alloc (.cells #[.int .u64 (L:Nat)] 171)) (fun r w2=>r=.returned (.int .i64 0)/\w2.cell? ⟨g,0,none⟩=some (.pointer (some ⟨S.P.p,0,none⟩)) /\
     Calls prog 155 #[.pointer (some ⟨S.P.p,0,none⟩)] w2 (fun r w'=>r=.returned (.pointer (some ⟨S.P.a.a,0,none⟩))/\w2=w') /\
     Calls prog 179 #[.int .i64 L,.int .i64 s] w2 (fun r w'=>r=.returned (.int .i64 ((L+16*(s%16):Nat):Int))/\w2=w') /\
     Calls prog 158 #[.pointer (some ⟨S.P.a.a,0,none⟩),.int .i64 ((L+16*(s%16):Nat):Int),.slice (some ⟨w2.heap.size,0,none⟩) 2 2] (w2.alloc (.cells #[.int .u64 (Q0s (some e):Nat),.int .u64 (Q0U (some e):Nat)] 171)) (fun r w3=>r=.returned (.int .i64 0)/\SetR S fr N K tb own xl xn' i s (some e) w (.returned (.int .i64 0)) w3))))):=by
  rw [hown];refine (Q5w (CO.sP hsep.drew) ok.inv.mem.pool own 7).mono ?_;rintro r w1 hgp;have cellsOf:∀{H':HL},Step S.hl H' w w1->w1.cell? ⟨g,0,none⟩=some (.pointer (some ⟨S.P.p,0,none⟩))/\w1.cell? ⟨g,1,none⟩=some (.int .i64 own):=fun {H'} st=>by
   have hx:=AsideV.step hg st;obtain⟨g0,e0,_,_,z0⟩:=hx 0 _ rfl;obtain⟨g1,e1,_,_,z1⟩:=hx 1 _ rfl;cases e0;cases e1;rw [<- hown];exact⟨z0,z1⟩
  rcases hgp with ⟨h0,_⟩|⟨_,h0,_⟩|⟨_,hlow,rfl,st⟩|⟨n,ac',hk7,h1n,h7n,hac',hpay,hr⟩
  ·rw [hc7] at h0;omega
  ·rw [hac] at h0;cases h0
  ·have st':Step S.hl S.hl w w1:=(CO.stepP hsep.drew S.P rfl st).from_drew;refine⟨cellsOf st',0,5,rfl,.inl ⟨.inr rfl,.inr ⟨hl,st',.inr ⟨?_,rfl⟩⟩⟩⟩;obtain⟨x,q1,q2⟩:=hlow;rw [hc7] at q2;exact⟨x,q1,q2⟩
  ·obtain rfl:n=7:=by omega
   rcases hr with ⟨L,P',rfl,g7,st⟩|⟨hno,rfl,st⟩
   ·have hown':∃p∈S.l,p.st=1/\(p.fac:Int)=own:=⟨p,J3L hi,h1,hown⟩
    obtain⟨ok1,t1⟩:=TPX.got ok t (.inr rfl) g7 hown';have al1:=Alt.got ok g7;rw [if_pos rfl,if_neg (by decide)] at t1;have hp':P'.p=S.P.p:=g7.p;have st1:Step S.hl (S.paid P' own ((Q0c 7:Nat):Int)).hl w w1:=(CO.stepPaid hsep.drew P' own _ hp' st).from_drew;have hLu:L∈P'.usedOf 7:=by
     obtain⟨A,B,_,e2⟩:=g7.used;rw [e2];simp
    have hLm:=Q0m ok1.inv.mem.pool hLu;have hbm:=Q0p ok1.inv.mem.pool;rw [Q2N] at hLm;have hLm1:L+256<=P'.a.mem.length:=hLm.1;have hbm1:P'.a.mem.length<=1073741824:=hbm;have hg1:=hg.alt al1 st1;have T1:=t1.tt ok1 (show (S.paid P' own ((Q0c 7:Nat):Int)).l[i]?=some p from hi) h1 h2 st1.sep hg1;have ka1:=Q1e (CO.sP st1.sep);have haa:(S.paid P' own ((Q0c 7:Nat):Int)).P.a.a=S.P.a.a:=al1.same.aa;rw [haa,show (S.paid P' own ((Q0c 7:Nat):Int)).P.p=S.P.p from hp'] at ka1;have hz:∀j,L<=j->j<L+256->P'.a.mem[j]?=some 0:=fun j j1 j2=>by
     have hroom:=(g7.gotM ok.inv.mem.pool).room.1;rw [g7.mem];exact Z7H hroom j1 j2
    refine⟨cellsOf st1,(L:Int),0,rfl,.inr ⟨L,rfl,rfl,⟨by omega,by omega⟩,ka1,Q6c T1 s hs,?_⟩⟩;have hperm:(xl++((tb i).setL (s/16) L).lvs).Perm ((L::xl)++(tb i).lvs):=by
     refine (J4m xl (TB.lvs_new (by omega) hl (by omega:L≠0))).trans ?_;exact J5b
    have kr:=Q7h ok1 t1 (show (S.paid P' own ((Q0c 7:Nat):Int)).l[i]?=some p from hi) h1 h2 hown (by omega:s/16<16) (by omega:L<18446744073709551616) hperm (.inl ⟨hl,by omega,hLu,hz⟩) st1.sep;rw [haa] at kr;refine kr.mono ?_;rintro r w2 ⟨rfl,S2,ok2,t2,al2,st2⟩;have al12:=al1.trans al2;have st12:=st1.trans st2;have hg2:=hg.alt al12 st12;have c2:=hg2.c0;rw [al12.same.p] at c2;have ka2:=Q1e (CO.sP st2.sep);rw [al12.same.aa,al12.same.p] at ka2;have hi2:S2.l[i]?=some p:=by rw [al12.l];exact hi
    have hlf2:(updT tb i ((tb i).setL (s/16) L) i).lf (s/16)=L:=by
     rw [updT_same];show (if s/16=s/16 then L else _)=L;rw [if_pos rfl]
    have hn2:(xn'++((updT tb i ((tb i).setL (s/16) L) i).setE s (some e)).nds).Perm (xn++(updT tb i ((tb i).setL (s/16) L) i).nds):=by
     rw [updT_same];exact hn
    have kse:=Q4c ok2 t2 hi2 h1 h2 hown hs (by rw [hlf2];omega) hn2 hA hB st2.sep;rw [hlf2,al12.same.aa] at kse;refine⟨rfl,c2,ka2,Q3i w2 L s (by omega) hs,kse.mono ?_⟩;rintro r w3 ⟨rfl,S3,ok3,t3,al3,st3⟩;rw [updT_same,Q1b] at t3;refine⟨rfl,.inl ⟨rfl,S3,_,ok3,t3,fun _=>rfl,Z1s hs (fun k hk h0=>?_) fun _=>rfl,fun k=>?_,al12.trans al3,st12.trans st3⟩⟩
    ·by_cases hks:k=s/16
     ·exact .inr hks
     ·refine .inl ?_;have h0':(if k=s/16 then L else (tb i).lf k)≠0:=h0
      rwa [if_neg hks] at h0'
    ·by_cases hks:k=s/16
     ·exact .inl (by rw [hks];exact hl)
     ·refine .inr (.inr ?_);show (if k=s/16 then L else (tb i).lf k)=_;rw [if_neg hks]
   ·have st':Step S.hl S.hl w w1:=(CO.stepP hsep.drew S.P rfl st).from_drew;exact⟨cellsOf st',0,4,rfl,.inl ⟨.inl rfl,.inr ⟨hl,st',.inl ⟨hno,rfl⟩⟩⟩⟩
 have hx0:Q0s (some e)≠0:=fun h=>by simpa using codeA_zero.1 h
 have hne:(((Q0s (some e):Nat):Int)==0)=false:=by simpa using hx0
 generalize SetR S fr N K tb own xl xn' i s (some e) w=Q at *
 unfold ptr at *
 generalize Q0s (some e)=x at *
 generalize Q0U (some e)=y at *
 generalize (p.at_+8*(s/16):Nat)=u at *
 generalize (p.fac:Int)=fa at *
 clear ok t hi T hn hsep hg hown h1 h2 hl hx0 hac;go_enter func104,ntmps104;go_wp2_with fail;refine km.mono ?_;rintro e w' ⟨rfl,rfl⟩;go_wp2_with fail;refine kl.mono ?_;rintro e w' ⟨rfl,rfl⟩;go_wp2_with fail
 go_region_held3 (fun w'=>w'.cell? ⟨g,0,none⟩=some (.pointer (some ⟨S.P.p,0,none⟩))/\w'.cell? ⟨g,1,none⟩=some (.int .i64 fa)) (first|exact⟨c0,c1⟩|exact⟨d0,d1⟩|exact hcell)
  (first|(go_at_call 65;refine HG.out.mono ?_;rintro r w1 ⟨hcell,a,er,rfl,hy⟩;have HW:=Q0a hy;clear hy HG))
 rcases HW.out with ⟨her,hy⟩|⟨L,rfl,rfl,hL,hy⟩
 ·have HY:=Q0a hy;clear hy HW;rcases her with rfl|rfl
  all_goals
   go_wp2_with fail
   first|exact HY.out|(go_ret2;exact HY.out)
 ·obtain⟨ka,krt,ks⟩:=hy;have HS:=Q0a ks;have c0':=hcell.1;have hL0:=hL.2;clear ks HW;go_wp2_with fail;refine ka.mono ?_;rintro e w' ⟨rfl,rfl⟩;go_wp2_with fail;refine krt.mono ?_;rintro e w' ⟨rfl,rfl⟩;go_wp2_with fail;refine HS.out.mono ?_;rintro e w2 ⟨rfl,c2,ka2,ksp,hz⟩;have HZ:=Q0a hz;clear hz HS ka krt;go_wp2_with fail;refine ka2.mono ?_;rintro e w' ⟨rfl,rfl⟩;go_wp2_with fail;refine ksp.mono ?_;rintro e w' ⟨rfl,rfl⟩;go_wp2_with fail;refine HZ.out.mono ?_;rintro e w3 ⟨rfl,hq⟩;have HQ:=Q0a hq;clear hq HZ;go_wp2_with fail
  first|exact HQ.out|(go_ret2;exact HQ.out)
end
theorem Z0h {t:TB} {k:Nat} (h:t.noneIn k=true):∀s,s<256->s/16=k->t.en s=none:=by
 intro s hs hk;unfold TB.noneIn at h;rw [J4C] at h;have:=h (s%16) (J1N.2 (J4D _ (by omega)));rw [show 16*k+s%16=s by omega] at this;exact Option.isNone_iff_eq_none.1 this
theorem Q8L {t:TB} {k:Nat} (hk:k<16) (h:t.noneIn k=false):∃s,s<256/\s/16=k/\t.en s≠none:=by
 unfold TB.noneIn at h;rw [List.all_eq_false] at h;obtain⟨j,hj,hn⟩:=h;have:=J1N.1 hj;refine⟨16*k+j,by omega,by omega,fun e=>hn ?_⟩;rw [e];rfl
section
variable {S:CO} {fr:List Nat} {N K:Nat} {tb:Nat->TB} {own:Int} {xl xn:List Nat}
theorem Q8M (ok:S.Ok fr N K) {i:Nat} {p:Pl} (hi:S.l[i]?=some p) (h1:p.st=1):∃e,find S.P.q.E (p.fac:Int)=some e:=ok.inv.tre.fac p (J3L hi) (Pl.is_iff.2 (.inl h1))
theorem TPX.paid (ok:S.Ok fr N K) (t:TPX S tb own xl xn) {e:En Fa} (he:find S.P.q.E own=some e):256*(xl.length:Int)+48*(xn.length:Int)<=e.q.charged:=by
 have h1:=ok.inv.tre.charged own e he;have h2:=t.xc own;rw [if_pos rfl] at h2;have h3:=Z0a S.l tb own;have h4:=Q4T S.l own;omega
theorem Z2u (ok:S.Ok fr N K) (t:TPX S tb own xl xn) {i s:Nat} {p:Pl} (hi:S.l[i]?=some p) (h1:p.st=1) (h2:p.kind=2) (hown:(p.fac:Int)=own) (hs:s<256) {e:Ent} (he:(tb i).en s=some e) {w:World} {g:Nat} (hsep:Sep w S.hl) (hg:TblC S p g w) :
  Calls prog 165 #[.pointer (some ⟨g,0,none⟩),.int .i64 s] w fun r w'=>r=.returned (.int .i64 0)/\Put1 S fr N K tb own xl (e.nd::xn) i s none w w':=by
 have hi256:=Q1o ok.inv.len hi;have T:=t.tt ok hi h1 h2 hsep hg;have hl:(tb i).lf (s/16)≠0:=fun h=>by
  have:=T.tin.hole s hs h;rw [he] at this;cases this
 have hL:=t.leaf hi256 (by omega:s/16<16) hl;have hm:=Q0m ok.inv.mem.pool hL;have hb:=Q0p ok.inv.mem.pool;have c0:=hg.c0;have kg:=Q3F T (s:Int);rw [show (tb i).at' (s:Int)=some e by unfold TB.at';rw [if_pos ⟨by omega,by omega⟩,J2C,he]] at kg;have km:=Q5B w (s:Int);rw [decide_eq_true (show 0<=(s:Int)/\(s:Int)<256 from ⟨by omega,by omega⟩)] at km;have kl:=Q4D T s hs;have ka:=Q1e (CO.sP hsep);have ks:=Q3i w ((tb i).lf (s/16)) s (by omega) hs;have hperm:((e.nd::xn)++((tb i).setE s none).nds).Perm (xn++(tb i).nds):=by
  refine List.Perm.trans ?_ (J4m xn (TB.nds_clr hs he).symm);exact J5b.symm
 have hown':∃p∈S.l,p.st=1/\(p.fac:Int)=own:=⟨p,J3L hi,h1,hown⟩
 have HX:Hid (Calls prog 158 #[.pointer (some ⟨S.P.a.a,0,none⟩),.int .i64 (((tb i).lf (s/16)+16*(s%16):Nat):Int),.slice (some ⟨w.heap.size,0,none⟩) 2 2] (w.alloc (.cells #[.int .u64 0,.int .u64 0] 171)) fun r w2 =>
   r=.returned (.int .i64 0)/\w2.cell? ⟨g,0,none⟩=some (.pointer (some ⟨S.P.p,0,none⟩))/\∃b:Bool,Calls prog 234 #[.pointer (some ⟨g,0,none⟩),.int .i64 (((tb i).lf (s/16):Nat):Int)] w2 (fun r w'=>r=.returned (.bool b)/\w2=w') /\
    ((b=false/\Put1 S fr N K tb own xl (e.nd::xn) i s none w w2) ∨
     (b=true/\Calls prog 155 #[.pointer (some ⟨S.P.p,0,none⟩)] w2 (fun r w'=>r=.returned (.pointer (some ⟨S.P.a.a,0,none⟩))/\w2=w') /\
     Calls prog 181 #[.pointer (some ⟨g,0,none⟩),.int .i64 s] w2 (fun r w'=>r=.returned (.int .i64 ((p.at_+8*(s/16):Nat):Int))/\w2=w') /\
     Calls prog 158 #[.pointer (some ⟨S.P.a.a,0,none⟩),.int .i64 ((p.at_+8*(s/16):Nat):Int),.slice (some ⟨w2.heap.size,0,none⟩) 1 1] (w2.alloc (.cells #[.int .u64 0] 171)) (fun r w3=>r=.returned (.int .i64 0)/\(w3.cell? ⟨g,0,none⟩=some (.pointer (some ⟨S.P.p,0,none⟩))/\w3.cell? ⟨g,1,none⟩=some (.int .i64 (p.fac:Int))) /\
      Calls prog 159 #[.pointer (some ⟨S.P.p,0,none⟩),.int .i64 (p.fac:Int),.int .i64 7,.int .i64 (((tb i).lf (s/16):Nat):Int)] w3.drew (fun r w4=>r=.returned (.int .i64 0)/\(w4.cell? ⟨g,0,none⟩=some (.pointer (some ⟨S.P.p,0,none⟩))/\w4.cell? ⟨g,1,none⟩=some (.int .i64 (p.fac:Int)))/\Put1 S fr N K tb own xl (e.nd::xn) i s none w w4))))):=by
  refine (Q4c (o:=none) ok t hi h1 h2 hown hs hl hperm (by decide) (by decide) hsep).mono ?_;rintro r w2 ⟨rfl,S2,ok2,t2,al2,st2⟩;have hg2:=hg.alt al2 st2;have c2:=hg2.c0;rw [al2.same.p] at c2;have hi2:S2.l[i]?=some p:=by rw [al2.l];exact hi
  have T2:=t2.tt ok2 hi2 h1 h2 st2.sep hg2;rw [updT_same] at T2;have ke:=Z2t T2 (s/16) (by omega) hl;refine⟨rfl,c2,((tb i).setE s none).noneIn (s/16),ke,?_⟩;cases hno:((tb i).setE s none).noneIn (s/16) with
  | false =>
   refine .inl ⟨rfl,S2,_,ok2,t2,fun _=>rfl,fun hf k hk h0=>?_,fun _=>.inr (.inr rfl),al2,st2⟩;by_cases hks:k=s/16
   ·rw [hks];exact Q8L (by omega) hno
   ·obtain⟨x,hx,e1,e2⟩:=hf k hk h0;refine⟨x,hx,e1,?_⟩;show (if x=s then none else (tb i).en x)≠none;rw [if_neg (fun h=>hks (by rw [<- e1,h]))];exact e2
  | true =>
   have ka2:=Q1e (CO.sP st2.sep);rw [al2.same.aa,al2.same.p] at ka2;refine .inr ⟨rfl,ka2,Q6c T2 s hs,?_⟩;have hperm2:(((tb i).lf (s/16)::xl)++((updT tb i ((tb i).setE s none) i).setL (s/16) 0).lvs).Perm (xl++(updT tb i ((tb i).setE s none) i).lvs):=by
    rw [updT_same];refine List.Perm.trans ?_ (J4m xl (TB.lvs_drop (t:=(tb i).setE s none) (k:=s/16) (by omega) hl).symm);exact J5b.symm
   have kr:=Q7h (L:=0) ok2 t2 hi2 h1 h2 hown (by omega:s/16<16) (by omega) hperm2 (.inr ⟨rfl,fun x hx hxk=>by rw [updT_same];exact Z0h hno x hx hxk⟩) st2.sep;rw [al2.same.aa] at kr;refine kr.mono ?_;rintro r w3 ⟨rfl,S3,ok3,t3,al3,st3⟩;rw [updT_same,Q1b] at t3;have al23:=al2.trans al3;have st23:=st2.trans st3;have hg3:=hg.alt al23 st23;have c3:=hg3.c0;rw [al23.same.p] at c3;refine⟨rfl,⟨c3,hg3.c1⟩,?_⟩;have hi3:S3.l[i]?=some p:=by rw [al23.l];exact hi
   obtain⟨ac,hac⟩:=Q8M ok3 hi3 h1;rw [hown] at hac ⊢;have hpd:=t3.paid ok3 hac;rw [J2i,J2i] at hpd;obtain⟨c,hc⟩:=PL.cls ok3.inv.mem.pool (by omega:1<=7) (by omega);have hu3:(tb i).lf (s/16)∈S3.P.usedOf 7:=t3.lvs.mem_iff.1 (by simp);have hm3:=Q0m ok3.inv.mem.pool hu3;have hb3:=Q0p ok3.inv.mem.pool;have kp:=Q4r (CO.sP st3.sep.drew) ok3.inv.mem.pool own hac 7 (by rw [Q2N];omega) c hc ((tb i).lf (s/16)) (by rw [<- Q0S hc];exact hu3) (by omega);rw [al23.same.p] at kp;refine kp.mono ?_;rintro r w4 ⟨rfl,P',g7,st⟩;have hown3:∃p∈S3.l,p.st=1/\(p.fac:Int)=own:=by rw [al23.l];exact hown'
   obtain⟨ok4,t4⟩:=TPX.put (xl:=xl) (xn:=e.nd::xn) ok3 (.inr rfl) (by rw [if_pos rfl,if_neg (by decide)];exact t3) g7 hown3;have al4:=Alt.put ok3 g7;have st4:Step S3.hl (S3.paid P' own (-((Q0c 7:Nat):Int))).hl w3 w4:=(CO.stepPaid st3.sep.drew P' own _ g7.p st).from_drew;have alz:=al23.trans al4;have stz:=st23.trans st4;have hg4:=hg.alt alz stz;have c4:=hg4.c0;rw [alz.same.p] at c4;have c41:=hg4.c1;rw [hown] at c41;refine⟨rfl,⟨c4,c41⟩,_,_,ok4,t4,fun _=>rfl,fun hf k hk h0=>?_,fun k=>?_,alz,stz⟩
   rotate_left
   ·by_cases hks:k=s/16
    ·refine .inr (.inl ?_);show (if k=s/16 then 0 else (tb i).lf k)=0;rw [if_pos hks]
    ·refine .inr (.inr ?_);show (if k=s/16 then 0 else (tb i).lf k)=_;rw [if_neg hks]
   have h0':(if k=s/16 then 0 else (tb i).lf k)≠0:=h0;have hks:k≠s/16:=fun h=>h0' (by rw [if_pos h])
   rw [if_neg hks] at h0';obtain⟨x,hx,e1,e2⟩:=hf k hk h0';refine⟨x,hx,e1,?_⟩;show (if x=s then none else (tb i).en x)≠none;rw [if_neg (fun h=>hks (by rw [<- e1,h]))];exact e2
 have hx0:Q0s (some e)≠0:=fun h=>by simpa using codeA_zero.1 h
 have hne:(((Q0s (some e):Nat):Int)==0)=false:=by simpa using hx0
 generalize Put1 S fr N K tb own xl (e.nd::xn) i s none w=Q at *
 unfold getV at kg;unfold ptr at *
 generalize Q0s (some e)=x at *
 generalize Q0U (some e)=y at *
 generalize ((tb i).lf (s/16)+16*(s%16):Nat)=v at *
 generalize (tb i).lf (s/16)=L at *
 generalize (p.at_+8*(s/16):Nat)=u at *
 generalize (p.fac:Int)=fa at *
 clear ok t hi T hperm hsep hg hown h1 h2 hl hx0 hown' hL hm;go_enter func165,ntmps165;go_wp2_with fail;refine kg.mono ?_;rintro e w' ⟨rfl,rfl⟩;go_wp2_with fail;refine km.mono ?_;rintro e w' ⟨rfl,rfl⟩;go_wp2_with fail;refine kl.mono ?_;rintro e w' ⟨rfl,rfl⟩;go_wp2_with fail;refine ka.mono ?_;rintro e w' ⟨rfl,rfl⟩;go_wp2_with fail;refine ks.mono ?_;rintro e w' ⟨rfl,rfl⟩;go_wp2_with fail;refine HX.out.mono ?_;rintro e w2 ⟨rfl,c2,b,ke,hy⟩;have HY:=Q0a hy;clear hy HX;go_wp2_with fail;refine ke.mono ?_;rintro e w' ⟨rfl,rfl⟩;rcases HY.out with ⟨rfl,hy⟩|⟨rfl,ka2,kr,hy⟩
 ·have HZ:=Q0a hy;clear hy HY;go_wp2_with fail
  first|exact⟨rfl,HZ.out⟩|(go_ret;exact⟨rfl,HZ.out⟩)
 ·have HZ:=Q0a hy;clear hy HY;go_wp2_with fail;refine ka2.mono ?_;rintro e w' ⟨rfl,rfl⟩;go_wp2_with fail;refine kr.mono ?_;rintro e w' ⟨rfl,rfl⟩;go_wp2_with fail;refine HZ.out.mono ?_;rintro e w3 ⟨rfl,⟨c3,c31⟩,hp⟩;have d3:w3.drew.cell? ⟨g,0,none⟩=some (.pointer (some ⟨S.P.p,0,none⟩)):=c3;have d31:w3.drew.cell? ⟨g,1,none⟩=some (.int .i64 fa):=c31;have HP:=Q0a hp;clear hp HZ ke ka2 kr;go_wp2_with fail
  go_region_held3 (fun w'=>w'.cell? ⟨g,0,none⟩=some (.pointer (some ⟨S.P.p,0,none⟩))/\w'.cell? ⟨g,1,none⟩=some (.int .i64 fa)) (first|exact⟨c3,c31⟩|exact⟨d3,d31⟩|exact hcell)
   (first|(go_at_call 159;refine HP.out.mono ?_;rintro r w4 ⟨rfl,hcell,hq⟩;have HQ:=Q0a hq;clear hq HP))
  go_wp2_with fail
  first|exact⟨rfl,HQ.out⟩|(go_ret;exact⟨rfl,HQ.out⟩)
end
def LOk (l:List Pl):Prop:=l.length=256/\∀p∈l,p.st<=3/\p.age<=1048575
theorem LOk.get {l:List Pl} (h:LOk l) (x:Nat):∃p,l[x%256]?=some p/\p.st<=3/\p.age<=1048575:=by
 have hlt:x%256<l.length:=by rw [h.1];omega
 exact⟨l[x%256],J3O hlt,h.2 _ (J4T hlt)⟩
theorem Z5r {l:List Pl} {s h:Nat} {p:Pl} (hl:l[h%256]?=some p):pget l s h=none↔nm (h%256) p≠h∨p.st≠s:=by
 unfold pget;rw [hl];simp only;by_cases hc:nm (h%256) p=h/\p.st=s
 ·rw [if_pos hc];simp [hc.1,hc.2]
 ·rw [if_neg hc];have:nm (h%256) p≠h∨p.st≠s:=by
   by_cases h1:nm (h%256) p=h
   ·exact .inr fun h2=>hc ⟨h1,h2⟩
   ·exact .inl h1
  simp [this]
theorem Q7S {w:World} {h:HT} (s:Sep w h.hl) (ok:LOk h.l) {x st:Nat} (hx:x<4294967296) {p:Pl} (hp:pget h.l st x=some p) :
  Calls prog 170 #[.pointer (some ⟨h.t,0,none⟩),.int .u32 x,.int .i64 st] w fun r w'=>r=.returned (.tuple #[.pointer (some ⟨h.t,x%256*5,none⟩),.int .i64 0])/\w=w':=by
 obtain⟨hi,hn,hs⟩:=pget_some.1 hp;have ha:=(ok.2 p (J3L hi)).2;have k1:=Q4t s hi (by omega) ha;obtain⟨-,-,-,c3,-,-⟩:=HT.cell s hi;have HO:=Q8A x hx;rw [hn] at k1;rw [hs] at c3;clear s ok hp hi hn hs ha;have h256:x%256<256:=by omega
 have hw:IntKind.i64.wrap ((x%256:Nat):Int)=((x%256:Nat):Int):=Go.IntWalk.i64_in _ (by omega);generalize x%256=i at *
 go_enter func170,ntmps170;go_wp2_with (go_at_call 153;refine k1.mono ?_;rintro e w' ⟨rfl,rfl⟩);go_ret2;exact⟨rfl,rfl⟩
theorem Z5s {a b:Nat} (h:a≠b):(((a:Nat):Int) != ((b:Nat):Int))=true:=by simp;omega
theorem Q4E {a b:Nat} (h:a≠b):(((a:Nat):Int)==((b:Nat):Int))=false:=by simp;omega
theorem Z7K {w:World} {h:HT} (s:Sep w h.hl) (ok:LOk h.l) {x st:Nat} (hx:x<4294967296) (hp:pget h.l st x=none) :
  Calls prog 170 #[.pointer (some ⟨h.t,0,none⟩),.int .u32 x,.int .i64 st] w fun r w'=>r=.returned (.tuple #[.pointer none,.int .i64 8])/\w=w':=by
 obtain⟨p,hi,h1,ha⟩:=ok.get x;have hcase:=(Z5r hi).1 hp;have k1:=Q4t s hi (by omega) ha;obtain⟨-,-,-,c3,-,-⟩:=HT.cell s hi;have HO:=Q8A x hx;clear s ok hp hi ha;have h256:x%256<256:=by omega
 have hw:IntKind.i64.wrap ((x%256:Nat):Int)=((x%256:Nat):Int):=Go.IntWalk.i64_in _ (by omega);generalize x%256=i at *
 generalize nm i p=n at *
 generalize p.st=t at *
 by_cases hn:n=x
 ·subst hn;have ht:t≠st:=hcase.resolve_left fun h=>h rfl
  have hb:=Z5s ht;have hb2:=Q4E ht;clear hcase ht;go_enter func170,ntmps170;go_wp2_with (go_at_call 153;refine k1.mono ?_;rintro e w' ⟨rfl,rfl⟩);go_ret2;exact⟨rfl,rfl⟩
 ·have hb:=Z5s hn;have hb2:=Q4E hn;clear hcase hn;go_enter func170,ntmps170;go_wp2_with (go_at_call 153;refine k1.mono ?_;rintro e w' ⟨rfl,rfl⟩);go_ret2;exact⟨rfl,rfl⟩
def Pl.obj (p:Pl):Value:=.agg #[.int .i64 (p.kind:Int),.int .i64 (p.at_:Int),.int .i64 (p.fac:Int)]
def zobj:Value:=.agg #[.int .i64 0,.int .i64 0,.int .i64 0]
theorem Q6e {w:World} {h:HT} (s:Sep w h.hl) (ok:LOk h.l) {x:Nat} (hx:x<4294967296) {p:Pl} (hp:pget h.l 1 x=some p) :
  Calls prog 93 #[.pointer (some ⟨h.t,0,none⟩),.int .u32 x] w (Told w (.tuple #[p.obj,.int .i64 0])):=by
 have hi:=(pget_some.1 hp).1;have hA:Calls prog 170 #[.pointer (some ⟨h.t,0,none⟩),.int .u32 x,.int .i64 1] (w.alloc (.cells #[.int .i64 0,.int .i64 0,.int .i64 0] 69)) fun r w'=>r=.returned (.tuple #[.pointer (some ⟨h.t,x%256*5,none⟩),.int .i64 0])/\(w.alloc (.cells #[.int .i64 0,.int .i64 0,.int .i64 0] 69))=w':=Q7S (st:=1) (s.alloc _) ok hx hp
 obtain⟨c0,c1,c2,-,-,-⟩:=HT.cell (s.alloc (.cells #[.int .i64 0,.int .i64 0,.int .i64 0] 69)) hi;have HB:Hid (Below w.heap.size w (w.alloc (.cells #[.int .i64 0,.int .i64 0,.int .i64 0] 69))):=(Below.refl _ _).alloc (J1x _) _;unfold Pl.obj;clear s ok hp hi;generalize x%256*5=i at *
 go_enter func93,ntmps93;go_wp2_with (go_at_call 170;refine hA.mono ?_;rintro e w' ⟨rfl,rfl⟩);refine bodyPost_ret (v:=.tuple #[.agg #[.int .i64 (p.kind:Int),.int .i64 (p.at_:Int),.int .i64 (p.fac:Int)],.int .i64 0]) (by simp [results,results93,go_sem]) rfl ⟨rfl,?_⟩;exact (Below.refl _ _).alloc (J1x _) _
theorem Z5t {w:World} {h:HT} (s:Sep w h.hl) (ok:LOk h.l) {x:Nat} (hx:x<4294967296) (hp:pget h.l 1 x=none) :
  Calls prog 93 #[.pointer (some ⟨h.t,0,none⟩),.int .u32 x] w (Told w (.tuple #[zobj,.int .i64 8])):=by
 have hA:Calls prog 170 #[.pointer (some ⟨h.t,0,none⟩),.int .u32 x,.int .i64 1] (w.alloc (.cells #[.int .i64 0,.int .i64 0,.int .i64 0] 69)) fun r w'=>r=.returned (.tuple #[.pointer none,.int .i64 8])/\(w.alloc (.cells #[.int .i64 0,.int .i64 0,.int .i64 0] 69))=w':=Z7K (st:=1) (s.alloc _) ok hx hp
 unfold zobj;clear s ok hp;go_enter func93,ntmps93;go_wp2_with (go_at_call 170;refine hA.mono ?_;rintro e w' ⟨rfl,rfl⟩);refine bodyPost_ret (v:=.tuple #[.agg #[.int .i64 0,.int .i64 0,.int .i64 0],.int .i64 8]) (by simp [results,results93,go_sem]) rfl ⟨rfl,?_⟩;exact (Below.refl _ _).alloc (J1x _) _
def Z9O (h:HT) (x:Nat) (p:Pl) (w:World) (r:Ending) (w':World):Prop:=r=.returned (.int .i64 0)/\Step h.hl ({h with l:=h.l.set (x%256) {p with st:=2}}:HT).hl w w'
theorem Z2v {w:World} {h:HT} (s:Sep w h.hl) (ok:LOk h.l) {x:Nat} (hx:x<4294967296) {p:Pl} (hp:pget h.l 1 x=some p) :
  Calls prog 172 #[.pointer (some ⟨h.t,0,none⟩),.int .u32 x] w (Z9O h x p w):=by
 have hA:Calls prog 170 #[.pointer (some ⟨h.t,0,none⟩),.int .u32 x,.int .i64 1] w fun r w'=>r=.returned (.tuple #[.pointer (some ⟨h.t,x%256*5,none⟩),.int .i64 0])/\w=w':=Q7S (st:=1) s ok hx hp
 have hi:=(pget_some.1 hp).1;obtain⟨-,-,-,c3,-,cf⟩:=HT.cell s hi;have cf3:=cf (x%256*5+3);have HS:Hid (Z9O h x p w (.returned (.int .i64 0)) (w.setCell ⟨h.t,x%256*5+3,none⟩ (.int .i64 2))):=⟨rfl,HT.set s hi 3 (.int .i64 2) (by omega) (q:={p with st:=2}) rfl⟩
 clear s ok hp hi cf;generalize Z9O h x p w=Q at *
 generalize x%256*5=i at *
 go_enter func172,ntmps172;go_wp2_with (go_at_call 170;refine hA.mono ?_;rintro e w' ⟨rfl,rfl⟩)
 first|exact HS.out|(go_ret;exact HS.out)
def Z9P (h:HT) (x:Nat) (p:Pl) (w:World) (r:Ending) (w':World):Prop:=r=.returned (.tuple #[p.obj,.int .i64 0])/\Step h.hl ({h with l:=h.l.set (x%256) ⟨0,0,0,0,p.age+1,0⟩}:HT).hl w w'
theorem Z7L {l:List Pl} {i:Nat} {p:Pl} (hi:l[i]?=some p) (q:Pl):(((((l.flatMap Pl.cells).set (i*5+0) (.int .i64 (q.kind:Int))).set (i*5+1) (.int .i64 (q.at_:Int))).set (i*5+2) (.int .i64 (q.fac:Int))).set (i*5+3) (.int .i64 (q.st:Int))).set (i*5+4) (.int .u32 (q.age:Int))=(l.set i q).flatMap Pl.cells:=by
 have g:∀(r:Pl),(l.set i r)[i]?=some r:=fun r=>by rw [J5m (J1O.1 hi).1]
 have e0:=Q3Y hi (q:=⟨q.kind,p.at_,p.fac,p.st,p.age,q.own⟩) 0 (.int .i64 (q.kind:Int)) (by omega) rfl;have e1:=Q3Y (g ⟨q.kind,p.at_,p.fac,p.st,p.age,q.own⟩) (q:=⟨q.kind,q.at_,p.fac,p.st,p.age,q.own⟩) 1 (.int .i64 (q.at_:Int)) (by omega) rfl;have e2:=Q3Y (g ⟨q.kind,q.at_,p.fac,p.st,p.age,q.own⟩) (q:=⟨q.kind,q.at_,q.fac,p.st,p.age,q.own⟩) 2 (.int .i64 (q.fac:Int)) (by omega) rfl;have e3:=Q3Y (g ⟨q.kind,q.at_,q.fac,p.st,p.age,q.own⟩) (q:=⟨q.kind,q.at_,q.fac,q.st,p.age,q.own⟩) 3 (.int .i64 (q.st:Int)) (by omega) rfl;have e4:=Q3Y (g ⟨q.kind,q.at_,q.fac,q.st,p.age,q.own⟩) (q:=q) 4 (.int .u32 (q.age:Int)) (by omega) rfl
 rw [J4o] at e1 e2 e3 e4;rw [e0,e1,e2,e3,e4]
theorem HT.set5 {w:World} {h:HT} (s:Sep w h.hl) {i:Nat} {p:Pl} (hi:h.l[i]?=some p) (q:Pl):Step h.hl ({h with l:=h.l.set i q}:HT).hl w (((((w.setCell ⟨h.t,i*5+0,none⟩ (.int .i64 (q.kind:Int))).setCell ⟨h.t,i*5+1,none⟩ (.int .i64 (q.at_:Int))).setCell ⟨h.t,i*5+2,none⟩ (.int .i64 (q.fac:Int))).setCell ⟨h.t,i*5+3,none⟩ (.int .i64 (q.st:Int))).setCell ⟨h.t,i*5+4,none⟩ (.int .u32 (q.age:Int))):=by
 have s1:=Sep.set (A:=[]) (B:=[]) (by simpa [HT.hl] using s) (i*5+0) (.int .i64 (q.kind:Int));have s2:=Sep.set (A:=[]) (B:=[]) s1.sep (i*5+1) (.int .i64 (q.at_:Int));have s3:=Sep.set (A:=[]) (B:=[]) s2.sep (i*5+2) (.int .i64 (q.fac:Int));have s4:=Sep.set (A:=[]) (B:=[]) s3.sep (i*5+3) (.int .i64 (q.st:Int));have s5:=Sep.set (A:=[]) (B:=[]) s4.sep (i*5+4) (.int .u32 (q.age:Int));have:=(((s1.trans s2).trans s3).trans s4).trans s5;rw [Z7L hi q] at this;exact this
theorem J0L:(prog.info? 261).map (·.size)=some 5:=by kernel_rfl
theorem Z2w {w:World} {h:HT} (s:Sep w h.hl) (ok:LOk h.l) {x:Nat} (hx:x<4294967296) {p:Pl} (hp:pget h.l 2 x=some p) (hage:p.age+1<=1048575) :
  Calls prog 135 #[.pointer (some ⟨h.t,0,none⟩),.int .u32 x] w (Z9P h x p w):=by
 have hi:=(pget_some.1 hp).1;have hA:Calls prog 170 #[.pointer (some ⟨h.t,0,none⟩),.int .u32 x,.int .i64 2] (w.alloc (.cells #[.int .i64 0,.int .i64 0,.int .i64 0] 69)) fun r w'=>r=.returned (.tuple #[.pointer (some ⟨h.t,x%256*5,none⟩),.int .i64 0])/\(w.alloc (.cells #[.int .i64 0,.int .i64 0,.int .i64 0] 69))=w':=Q7S (st:=2) (s.alloc _) ok hx hp
 obtain⟨c0,c1,c2,c3,c4,cf⟩:=HT.cell s hi;have f0:=cf (x%256*5);have f1:=cf (x%256*5+1);have f2:=cf (x%256*5+2);have f3:=cf (x%256*5+3);have f4:=cf (x%256*5+4);have hlt:=(HT.cells s).lt;have hlt1:h.t<w.heap.size+1:=by omega
 have hne:h.t≠w.heap.size:=by omega
 have hne1:h.t≠w.heap.size+1:=by omega
 have hw:IntKind.u32.wrap ((p.age:Int)+1)=(p.age:Int)+1:=by
  show ((p.age:Int)+1)%4294967296=_;omega
 have hgt:decide ((1048575:Int)<(p.age:Int)+1)=false:=by rw [decide_eq_false_iff_not];omega
 have HFin:Hid (∀A B,Z9P h x p w (.returned (.tuple #[.agg #[.int .i64 (p.kind:Int),.int .i64 (p.at_:Int),.int .i64 (p.fac:Int)],.int .i64 0])) (((((((w.setCell ⟨h.t,x%256*5,none⟩ (.int .i64 0)).setCell ⟨h.t,x%256*5+1,none⟩ (.int .i64 0)).setCell ⟨h.t,x%256*5+2,none⟩ (.int .i64 0)).setCell ⟨h.t,x%256*5+3,none⟩ (.int .i64 0)).setCell ⟨h.t,x%256*5+4,none⟩ (.int .u32 ((p.age:Int)+1))).alloc A).alloc B)):=fun A B=>by
  have st:=HT.set5 s hi ⟨0,0,0,0,p.age+1,0⟩;refine⟨rfl,st.trans (st.sep.grown (((Below.refl _ _).alloc (J1x _) A).alloc (by simp) B))⟩
 clear cf s ok hp hi hage;generalize Z9P h x p w=Q at *
 generalize x%256*5=i at *
 go_enter func135,ntmps135;go_wp2_with (go_at_call 170;refine hA.mono ?_;rintro e w' ⟨rfl,rfl⟩);refine bodyPost_ret (v:=.tuple #[.agg #[.int .i64 (p.kind:Int),.int .i64 (p.at_:Int),.int .i64 (p.fac:Int)],.int .i64 0]) (by simp [results,results135,go_sem]) rfl ?_;exact HFin.out _ _
theorem Z2x (l:List Pl) (h:l.length=256):(l.flatMap Pl.cells).length=1280:=by rw [Z9F,h]
theorem Z9Q:(prog.info? 262).map (·.size)=some 1280:=by kernel_rfl
theorem HT.range {w:World} {h:HT} (s:Sep w h.hl):w.rangeAt h.t 0 (h.l.flatMap Pl.cells):=fun j v hv=>by
 rw [J4b];exact (HT.cells s).cell j v hv
theorem Z2y {l:List Pl} {i:Nat} {p:Pl} (hi:l[i]?=some p):(l.flatMap Pl.cells).toArray.extract (i*5) (i*5+5)=p.cells.toArray:=by
 apply Array.ext'
 rw [Array.toList_extract]
 apply J3f
 intro j;simp only [List.extract_eq_take_drop,J4v];rw [J3A];split
 ·rename_i hj;rw [J3Z];have h5:j<p.cells.length:=hj;have:=Q3X hi j p.cells[j] hj (J3O h5);rw [this,J3O h5]
 ·rw [J3m (by show 5<=j;omega)]
theorem Z7M {w:World} {l:List Pl} (hl:l.length=256) {i:Nat} {p:Pl} (hi:l[i]?=some p):(Instr.index 262 (.agg (l.flatMap Pl.cells).toArray) (.int .i64 i)).run prog w=.ok (.agg p.cells.toArray) w:=by
 have hlt:i<256:=by have:=(J1O.1 hi).1;omega
 have e:=Z2y hi;generalize (l.flatMap Pl.cells).toArray=cs at *
 have h1:(0:Int)<=(i:Int)/\(i:Int)<((256:Nat):Int):=by omega
 have h2:(prog.info? 261).map (·.size)=some 5:=J0L;cases hq:prog.info? 261 with
 | none=>simp [hq] at h2
 | some inf =>
  have hs:inf.size=5:=by simpa [hq] using h2
  have hu:prog.underlying 262=some (.array 256 261):=underlying262;have hagg:(isAgg 261).run prog w=.ok true w:=by
   unfold isAgg;rw [Sem.run_bind,run_underlying underlying261 w];rfl
  simp [Instr.index,asIntOf,Sem.run_bind,run_underlying hu w,h1,part,sizeOf,typeInfo,hq,hs,e];intro hh;omega
theorem Z1t {w:World} {h:HT} (s:Sep w h.hl) (ok:LOk h.l) (st:Nat) (hst:st<=3) :
  Calls prog 171 #[.pointer (some ⟨h.t,0,none⟩),.int .i64 st] w (NewHs w (allL h.l st)):=by
 have HL:Hid (w.rangeAt h.t 0 (h.l.flatMap Pl.cells)):=HT.range s;have HI:Hid (∀(w':World) (i:Nat) (p:Pl),h.l[i]?=some p->(Instr.index 262 (.agg (h.l.flatMap Pl.cells).toArray) (.int .i64 i)).run prog w'=.ok (.agg p.cells.toArray) w'):=fun w' i p hp=>Z7M ok.1 hp
 go_enter func171,ntmps171;go_wp2_with (refine wpList_load_mid rfl 262 _ rfl h.t 0 rfl (h.l.flatMap Pl.cells) _ HL.out underlying262 rfl (by rw [Z2x _ ok.1];exact Z9Q) ?_);have HOk:=Q0a ok;have HS:=Q0a s;have hl256:=ok.1;clear s ok HL;generalize hcs:(h.l.flatMap Pl.cells).toArray=cs at *
 obtain⟨i0,hinf,hz0,hz1,hz2⟩:=info_parts Q3A
 go_loopg [5,14] 256 (fun gk ov iv wr=>∃k:Nat,iv=.int .i64 k/\k+gk=256/\OutH w wr ov (Q4O h.l st k))
 case atStart=>exact⟨0,rfl,rfl,OutH.nil w⟩
 case round =>
  obtain⟨k,rfl,hkg,hout⟩:=hrel;have HO:=Q0a hout;have HKG:=Q0a hkg;clear hout;by_cases hlt:k<256
  ·obtain⟨p,hp⟩:∃p,h.l[k]?=some p:=⟨h.l[k]'(by omega),J3O (by omega)⟩
   have hidx:=HI.out wr k p hp;have HP:=Q0a hp;have ha:Hid (p.age<=1048575):=(HOk.out.2 p (J3L hp)).2;clear hp;by_cases hs:p.st=st
   ·have HSt:=Q0a hs;have hb:(((p.st:Nat):Int)==(st:Int))=true:=by simp [hs]
    clear hs;unfold Pl.cells at hidx;have hnm:=Q4t ((HS.out.grown HO.out.2).sep.alloc (.cells #[.int .i64 (p.kind:Int),.int .i64 (p.at_:Int),.int .i64 (p.fac:Int),.int .i64 (p.st:Int),.int .u32 (p.age:Int)] 261)) HP.out hlt ha.out;have hlen:=Q2u h.l st k;have hsz:=HO.out.2.size;go_wp2_with fail;refine hnm.mono ?_;rintro e w' ⟨rfl,rfl⟩;dsimp only
    iterate 4 go_step
    refine wpList_append_own _ rfl _ _ 66 rfl w.heap.size 27 i0 (.int .u32 0) 1 4 underlying66 hinf hz0 hz1 hz2 rfl (by decide) _ _ _ rfl ((HO.out.1.alloc _).alloc _) ⟨wr.heap.size+1,0,none⟩ 1 1 [.int .u32 ((nm k p:Nat):Int)] rfl rfl (Q7a _ _ _) (by simp [Value.oneCell']) (by unfold maxLen;omega) (by omega) (by simp;omega) ?_;intro v' w1 hown' hgrow _;have HR:Hid (OutH w w1 v' (Q4O h.l st (k+1))):=by
     have e:=Q6J HP.out st;rw [if_pos HSt.out] at e;rw [e];exact HO.out.app2 (M:=[nm k p]) hown' hgrow
    clear hown' hgrow HO hsz hlen;go_wp2_with fail;go_roundg (256-(k+1))
    case measure=>have:=HKG.out;omega
    case rel=>exact⟨k+1,by go_num,by omega,HR.out⟩
   ·have HSt:=Q0a hs;have hb:=Q4E hs;clear hs;unfold Pl.cells at hidx;have HR:Hid (∀o,OutH w (wr.alloc o) u5 (Q4O h.l st (k+1))):=fun o=>by
     have e:=Q6J HP.out st;rw [if_neg HSt.out,J3D] at e;rw [e];exact HO.out.alloc o
    go_wp2_with fail;go_roundg (256-(k+1))
    case measure=>have:=HKG.out;omega
    case rel=>exact⟨k+1,by go_num,by omega,HR.out _⟩
  ·have e:Q4O h.l st k=allL h.l st:=by
    have:k=256:=by omega
    unfold allL;rw [this,hl256]
   rw [e] at HO;have HR:Hid (NewHs w (allL h.l st) (.returned u5) wr):=⟨u5,rfl,HO.out.1,HO.out.2⟩
   go_wp2_with fail;go_ret;exact HR.out
theorem Q8N {w:World} {h:HT} (s:Sep w h.hl) (ok:LOk h.l):Calls prog 94 #[.pointer (some ⟨h.t,0,none⟩)] w (NewHs w (allL h.l 1)):=by
 have hA:Calls prog 171 #[.pointer (some ⟨h.t,0,none⟩),.int .i64 1] w (NewHs w (allL h.l 1)):=Z1t s ok 1 (by omega);clear s ok;go_enter func94,ntmps94;go_wp2_with (go_at_call 171;refine hA.mono ?_;rintro e w' ⟨v,rfl,h1,h2⟩)
 first|exact⟨v,rfl,h1,h2⟩|(go_ret;exact⟨v,rfl,h1,h2⟩)
theorem Q6f {w:World} {h:HT} (s:Sep w h.hl) (ok:LOk h.l):Calls prog 156 #[.pointer (some ⟨h.t,0,none⟩)] w (Told w (.int .i64 ((allL h.l 0).length:Nat))):=by
 have hA:Calls prog 171 #[.pointer (some ⟨h.t,0,none⟩),.int .i64 0] w (NewHs w (allL h.l 0)):=Z1t s ok 0 (by omega);clear s ok;generalize allL h.l 0=L at *
 go_enter func156,ntmps156;go_wp2_with (go_at_call 171;refine hA.mono ?_;intro e w' hx;obtain⟨a,cap,rfl,hb,-⟩:=hx.shape;have HB:=Q0a hb;clear hx hb)
 first|exact⟨rfl,HB.out⟩|(go_ret;exact⟨rfl,HB.out⟩)
theorem empty_iff {l:List Pl}:allL l 0=[]↔∀p∈l,p.st≠0:=by
 constructor
 ·intro h p hp hs;obtain⟨i,hi⟩:=J4l.1 hp;have hlt:=(J1O.1 hi).1;have:nm i p∈allL l 0:=mem_allTo.2 ⟨i,p,hlt,hi,hs,rfl⟩;rw [h] at this;cases this
 ·intro h;cases hc:allL l 0 with
  | nil=>rfl
  | cons x r =>
   exfalso;have:x∈allL l 0:=by rw [hc];simp
   obtain⟨i,p,_,hi,hs,_⟩:=mem_allTo.1 this;exact h p (J3L hi) hs
def Fst (l:List Pl) (i:Nat) (p:Pl):Prop:=l[i]?=some p/\p.st=0/\∀j q,j<i->l[j]?=some q->q.st≠0
theorem Z7N (l:List Pl):(∀p∈l,p.st≠0)∨∃i p,Fst l i p:=by
 induction l with
 | nil=>left;simp
 | cons x r ih =>
  by_cases hx:x.st=0
  ·right;exact⟨0,x,rfl,hx,fun j q hj=>absurd hj (J4Z _)⟩
  ·rcases ih with h|⟨i,p,h1,h2,h3⟩
   ·left;intro p hp;rcases J1C.1 hp with rfl|hp
    ·exact hx
    ·exact h p hp
   ·right;refine⟨i+1,p,h1,h2,fun j q hj hq=>?_⟩;cases j with
    | zero=>cases hq;exact hx
    | succ j=>exact h3 j q (by omega) hq
theorem Z5u {w:World} (p:Pl):Calls prog 152 #[.agg p.cells.toArray] w (Told w (.bool (((p.st:Nat):Int)==0))):=by
 have hc:=Cells.new w 261 p.cells;have c3:(w.alloc (.cells p.cells.toArray 261)).cell? ⟨w.heap.size,3,none⟩=some (.int .i64 (p.st:Int)):=hc.cell 3 _ rfl;unfold Pl.cells at *
 clear hc;go_enter func152,ntmps152
 go_wp2
 go_ret;exact⟨rfl,(Below.refl _ _).alloc (J1x _) _⟩
def FstI (l:List Pl) (z:Int):Prop:=(z = -1/\∀p∈l,p.st≠0)∨∃(i:Nat) (p:Pl),z=(i:Int)/\Fst l i p
theorem Z2z {w:World} {h:HT} (s:Sep w h.hl) (ok:LOk h.l):Calls prog 151 #[.slice (some ⟨h.t,0,none⟩) 256 256,.func (.func 152) #[] #[]] w fun r w'=>(∃z,r=.returned (.int .i64 z)/\FstI h.l z)/\Below w.heap.size w w':=by
 have hl256:=ok.1;have HS:=Q0a s;clear s ok;go_enter func151,ntmps151;go_wp2_with fail
 go_loopg [5,8] 256 (fun gk _ iv wr=>∃k:Nat,iv=.int .i64 k/\k+gk=256/\(∀j q,j<k->h.l[j]?=some q->q.st≠0)/\Below w.heap.size w wr)
 case atStart=>exact⟨0,rfl,rfl,fun j q hj=>absurd hj (J4Z _),Below.refl _ _⟩
 case round =>
  obtain⟨k,rfl,hkg,hpre,hb⟩:=hrel;have HKG:=Q0a hkg;have HPre:=Q0a hpre;have HB:=Q0a hb;clear hpre;by_cases hlt:k<256
  ·obtain⟨p,hp⟩:∃p,h.l[k]?=some p:=⟨h.l[k]'(by omega),J3O (by omega)⟩
   obtain⟨c0,c1,c2,c3,c4,-⟩:=HT.cell ((HS.out.grown hb).sep) hp;have HP:=Q0a hp;have hput:Calls prog 152 #[.agg #[.int .i64 (p.kind:Int),.int .i64 (p.at_:Int),.int .i64 (p.fac:Int),.int .i64 (p.st:Int),.int .u32 (p.age:Int)]] wr (Told wr (.bool (((p.st:Nat):Int)==0))):=Z5u p;clear hp hb;by_cases hs:p.st=0
   ·have HSt:=Q0a hs;have hbq:(((p.st:Nat):Int)==0)=true:=by simp [hs]
    rw [hbq] at hput;clear hs hbq;go_wp2_with (go_at_call 152;refine hput.mono ?_;rintro e w1 ⟨rfl,hb1⟩;have HB1:=Q0a hb1;clear hb1);have HR:Hid ((∃z,Ending.returned (.int .i64 k)=.returned (.int .i64 z)/\FstI h.l z)/\Below w.heap.size w w1):=⟨⟨_,rfl,.inr ⟨k,p,rfl,HP.out,HSt.out,HPre.out⟩⟩,HB.out.trans (HB1.out.mono HB.out.size)⟩
    first|exact HR.out|(go_ret;exact HR.out)
   ·have HSt:=Q0a hs;have hbq:(((p.st:Nat):Int)==0)=false:=by simp;omega
    rw [hbq] at hput;clear hs hbq;go_wp2_with (go_at_call 152;refine hput.mono ?_;rintro e w1 ⟨rfl,hb1⟩;have HB1:=Q0a hb1;clear hb1);go_roundg (256-(k+1))
    case measure=>have:=HKG.out;omega
    case rel =>
     refine⟨k+1,by go_num,by omega,fun j q hj hq=>?_,HB.out.trans (HB1.out.mono HB.out.size)⟩;by_cases e:j=k
     ·subst e;have:=HP.out;rw [this] at hq;cases hq;exact HSt.out
     ·exact HPre.out j q (by omega) hq
  ·have HR:Hid ((∃z,Ending.returned (.int .i64 (-1))=.returned (.int .i64 z)/\FstI h.l z)/\Below w.heap.size w wr):=⟨⟨_,rfl,.inl ⟨rfl,fun p hp=>by
    obtain⟨i,hi⟩:=J4l.1 hp;have:=(J1O.1 hi).1;exact HPre.out i p (by omega) hi⟩⟩,HB.out⟩
   go_wp2_with fail
   first|exact HR.out|(go_ret;exact HR.out)
def PutT (h:HT) (q:Pl) (i:Nat) (w:World) (r:Ending) (w':World):Prop:=r=.returned (.tuple #[.int .u32 ((nm i q:Nat):Int),.int .i64 0])/\Step h.hl ({h with l:=h.l.set i q}:HT).hl w w'
theorem Z5v {w:World} {h:HT} (s:Sep w h.hl) (ok:LOk h.l) {i:Nat} {p:Pl} (hf:Fst h.l i p) (k a f x:Nat):Calls prog 66 #[.pointer (some ⟨h.t,0,none⟩),.agg #[.int .i64 k,.int .i64 a,.int .i64 f]] w (PutT h ⟨k,a,f,1,p.age,x⟩ i w):=by
 have hi256:i<256:=by have:=(J1O.1 hf.1).1;have:=ok.1;omega
 have hage:=(ok.2 p (J3L hf.1)).2;have hix:Calls prog 151 #[.slice (some ⟨h.t,0,none⟩) 256 256,.func (.func 152) #[] #[]] (w.alloc (.cells #[.int .i64 k,.int .i64 a,.int .i64 f] 69)) fun r w'=>r=.returned (.int .i64 i)/\w'.cell? ⟨w.heap.size,0,none⟩=some (.int .i64 k)/\w'.cell? ⟨w.heap.size,1,none⟩=some (.int .i64 a)/\w'.cell? ⟨w.heap.size,2,none⟩=some (.int .i64 f) /\
   (∃v,w'.cell? ⟨h.t,i*5,none⟩=some v)/\(∃v,w'.cell? ⟨h.t,i*5+1,none⟩=some v)/\(∃v,w'.cell? ⟨h.t,i*5+2,none⟩=some v)/\(∃v,w'.cell? ⟨h.t,i*5+3,none⟩=some v)/\(∀j,w'.frozen? ⟨h.t,j,none⟩=false) /\
   Calls prog 153 #[.pointer (some ⟨h.t,0,none⟩),.int .i64 i] ((((w'.setCell ⟨h.t,i*5,none⟩ (.int .i64 k)).setCell ⟨h.t,i*5+1,none⟩ (.int .i64 a)).setCell ⟨h.t,i*5+2,none⟩ (.int .i64 f)).setCell ⟨h.t,i*5+3,none⟩ (.int .i64 1)).drew
    fun r w2=>r=.returned (.int .u32 ((nm i p:Nat):Int))/\PutT h ⟨k,a,f,1,p.age,x⟩ i w (.returned (.tuple #[.int .u32 ((nm i p:Nat):Int),.int .i64 0])) w2:=by
  refine (Z2z (s.alloc _) ok).mono ?_;rintro r w' ⟨⟨z,rfl,hz⟩,hb⟩;have hbb:Below w.heap.size w w':=((Below.refl _ _).alloc (J1x _) _).trans (hb.mono (by simp));have s1:=s.grown hbb;have hc:=(Cells.new w 69 [.int .i64 k,.int .i64 a,.int .i64 f]).same (hb.block w.heap.size (by simp));obtain⟨c0,c1,c2,c3,c4,cf⟩:=HT.cell s1.sep hf.1;have hz':z=(i:Int):=by
   rcases hz with ⟨_,h0⟩|⟨j,q,rfl,h1,h2,h3⟩
   ·exact absurd hf.2.1 (h0 p (J3L hf.1))
   ·rcases J4y i j with e|e|e
    ·exact absurd hf.2.1 (h3 i p e hf.1)
    ·rw [e]
    ·exact absurd h2 (hf.2.2 j q e h1)
  refine⟨by rw [hz'],hc.cell 0 _ rfl,hc.cell 1 _ rfl,hc.cell 2 _ rfl,⟨_,c0⟩,⟨_,c1⟩,⟨_,c2⟩,⟨_,c3⟩,cf,?_⟩;have g:∀(r:Pl),(h.l.set i r)[i]?=some r:=fun r=>by rw [J5m (J1O.1 hf.1).1]
  have t0:Step h.hl (⟨h.t,h.l.set i ⟨k,p.at_,p.fac,p.st,p.age,x⟩⟩:HT).hl w' _:=HT.set s1.sep hf.1 0 (.int .i64 k) (by omega) (q:=⟨k,p.at_,p.fac,p.st,p.age,x⟩) rfl;have t1:=HT.set (h:=⟨h.t,h.l.set i ⟨k,p.at_,p.fac,p.st,p.age,x⟩⟩) t0.sep (g _) 1 (.int .i64 a) (by omega) (q:=⟨k,a,p.fac,p.st,p.age,x⟩) rfl;simp only [J4o] at t1;have t2:=HT.set (h:=⟨h.t,h.l.set i ⟨k,a,p.fac,p.st,p.age,x⟩⟩) t1.sep (g _) 2 (.int .i64 f) (by omega) (q:=⟨k,a,f,p.st,p.age,x⟩) rfl;simp only [J4o] at t2;have t3:=HT.set (h:=⟨h.t,h.l.set i ⟨k,a,f,p.st,p.age,x⟩⟩) t2.sep (g _) 3 (.int .i64 1) (by omega) (q:=⟨k,a,f,1,p.age,x⟩) rfl
  simp only [J4o] at t3;have tt:=(s1.trans (((t0.trans t1).trans t2).trans t3)).drew;have hn:=Q4t (h:=⟨h.t,h.l.set i ⟨k,a,f,1,p.age,x⟩⟩) tt.sep (g _) hi256 (by exact hage);refine hn.mono ?_;rintro r w2 ⟨rfl,rfl⟩;exact⟨rfl,rfl,tt⟩
 have hne:h.t≠w.heap.size:=by have:=(HT.cells s).lt;omega
 have hne2:w.heap.size≠h.t:=fun e=>hne e.symm
 have hw:IntKind.i64.wrap (i:Int)=(i:Int):=Go.IntWalk.i64_in _ (by omega);clear s ok hf hage;generalize PutT h ⟨k,a,f,1,p.age,x⟩ i w=Q at *
 generalize nm i p=n at *
 go_enter func66,ntmps66;go_wp2_with (go_at_call 151;refine hix.mono ?_;rintro e w1 ⟨rfl,o0,o1,o2,⟨v0,c0⟩,⟨v1,c1⟩,⟨v2,c2⟩,⟨v3,c3⟩,cf,hname⟩;have f0:=cf (i*5);have f1:=cf (i*5+1);have f2:=cf (i*5+2);have f3:=cf (i*5+3);have HN:=Q0a hname;clear hname cf);go_region;go_wp2_with fail;refine HN.out.mono ?_;rintro r w2 ⟨rfl,hq⟩;go_wp2_with fail
 first|exact hq|(go_ret2;exact hq)
end Go.Proofs.YtlakjlmaboioiaaGreatDoor
