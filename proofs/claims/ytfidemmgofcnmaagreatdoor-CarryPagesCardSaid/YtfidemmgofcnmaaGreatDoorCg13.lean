/- CarryPages returns true at every input. No condition. Part of its proof. -/
import Derived.Test.YtfidemmgofcnmaaGreatDoorCg12
set_option maxHeartbeats 2000000
set_option maxRecDepth 100000
set_option linter.unusedVariables false
namespace Go.Proofs.YtfidemmgofcnmaaGreatDoor
open Go.RowKit Go.Proofs.Tryz
theorem bytes8_len(x:Nat):(Q0c x).length=8:=rfl
theorem Q0T(x y:Nat):(Q0c x++Q0c y).length=16:=rfl
theorem Q2A(x:Nat):∀y∈Q0c x,y<256:=by
 intro y hy;unfold Q0c at hy;simp only[Z9x,Z9N,or_false] at hy;omega
theorem Q7w{m bs:List Nat}{a:Nat}(h:∀b∈m,b<256)(hb:∀b∈bs,b<256):∀b∈put_ m a bs,b<256:=by
 intro y hy;unfold put_ at hy;simp only[Z9Y] at hy;rcases hy with (hy|hy)|hy
 ·exact h y (J2D hy)
 ·exact hb y hy
 ·exact h y (J1M hy)
def Q2B(m m':List Nat)(a n:Nat):Prop:=∀b k,b+k<=a∨a+n<=b->Kept m m' b k
theorem Q2h{m bs:List Nat}{a:Nat}(hl:a+bs.length<=m.length):Q2B m (put_ m a bs) a bs.length:=fun _ _ h=>Q1j hl h
theorem Z0C{m:List Nat}{a x:Nat}(hl:a+8<=m.length)(hx:x<18446744073709551616):Q0j (put_ m a (Q0c x)) a=x:=by
 unfold Q0j;have:((put_ m a (Q0c x)).drop a).take 8=Q0c x:=by
  apply J0R
  intro i;rw[J1m];split
  ·rw[J1L];exact Q5P (by rw[bytes8_len];exact hl) (by rw[bytes8_len];assumption)
  ·rw[J0Y (by rw[bytes8_len];omega)]
 rw[this];exact Q1U x hx
theorem Z0D{m:List Nat}{a x y:Nat}(hl:a+16<=m.length)(hx:x<18446744073709551616)(hy:y<18446744073709551616):Q0j (put_ m a (Q0c x++Q0c y)) a=x/\Q0j (put_ m a (Q0c x++Q0c y)) (a+8)=y:=by
 have h1:((put_ m a (Q0c x++Q0c y)).drop a).take 8=Q0c x:=by
  apply J0R
  intro i;rw[J1m];split
  ·rename_i hi;rw[J1L,Q5P (by rw[Q0T];exact hl) (by rw[Q0T];omega),J2u (by rw[bytes8_len];exact hi)]
  ·rw[J0Y (by rw[bytes8_len];omega)]
 have h2:((put_ m a (Q0c x++Q0c y)).drop (a+8)).take 8=Q0c y:=by
  apply J0R
  intro i;rw[J1m];split
  ·rename_i hi;rw[J1L,J0J,Q5P (by rw[Q0T];exact hl) (by rw[Q0T];omega),J2v (by rw[bytes8_len];omega),bytes8_len,show 8+i-8=i by omega]
  ·rw[J0Y (by rw[bytes8_len];omega)]
 unfold Q0j;rw[h1,h2];exact⟨Q1U x hx,Q1U y hy⟩
section
variable {S:CO} {fr:List Nat} {N K:Nat} {tb:Nat->TB} {own:Int} {xl xn:List Nat}
theorem Q2C(ok:S.Ok fr N K){j a b n:Nat}{m:List Nat}(ha:a∈S.P.usedOf j)(h1:a<=b)(h2:b+n<=a+Q0d j)(hk:Q2B S.P.a.mem m b n){j' a':Nat}(E4:a'∈S.P.usedOf j')(Ab:¬(j=j'/\a=a')):Kept S.P.a.mem m a' (Q0d j'):=by
 have:=Q2R ok.inv.mem.pool ha E4 Ab;exact hk _ _ (by omega)
theorem TPX.leaf_ne(ok:S.Ok fr N K)(t:TPX S tb own xl xn){i j k k':Nat}(hi:i<256)(hj:j<256)(hk:k<16)(Bj:k'<16)(h:(tb i).lf k≠0)(h':(tb j).lf k'≠0)(Ab:¬(i=j/\k=k')):(tb i).lf k≠(tb j).lf k':=by
 have AE:(xl++Q2y tb).Nodup:=t.lvs.nodup_iff.2 ((Q1A ok.inv.mem.pool 7).imp fun h=>Nat.ne_of_lt h);have AE:=(J0c.1 AE).2.1;unfold Q2y List.Nodup at AE;rw[Z9R] at AE;obtain⟨n1,n2⟩:=AE;by_cases e:i=j
 ·subst e;have CZ:k≠k':=fun e=>Ab ⟨rfl,e⟩
  have:=n1 i (Z9I.2 hi);unfold TB.lvs at this;rw[Z9K] at this;rcases J1S k k' with Aa|Jo
  ·have:=J2k.1 this k k' (by simpa using hk) (by simpa using Bj) Aa;simp only[J3l] at this;exact this _ (by rw[if_neg h]) _ (by rw[if_neg h'])
  ·have:=J2k.1 this k' k (by simpa using Bj) (by simpa using hk) (by omega);simp only[J3l] at this;exact(this _ (by rw[if_neg h']) _ (by rw[if_neg h])).symm
 ·rcases J1S i j with Aa|Jo
  ·have:=J2k.1 n2 i j (by simpa using hi) (by simpa using hj) Aa;simp only[J3l] at this;exact this _ (mem_lvs.2 ⟨k,hk,rfl,h⟩) _ (mem_lvs.2 ⟨k',Bj,rfl,h'⟩)
  ·have:=J2k.1 n2 j i (by simpa using hj) (by simpa using hi) (by omega);simp only[J3l] at this;exact(this _ (mem_lvs.2 ⟨k',Bj,rfl,h'⟩) _ (mem_lvs.2 ⟨k,hk,rfl,h⟩)).symm
theorem TPX.entry(ok:S.Ok fr N K)(t:TPX S tb own xl xn){i s:Nat}{p:Pl}(hi:S.l[i]?=some p)(h1:p.st=1)(h2:p.kind=2)(Am:(p.fac:Int)=own)(hs:s<256)(hl:(tb i).lf (s/16)≠0){o:Option Ent}{xn':List Nat}{m:List Nat}(Ac:m.length=S.P.a.mem.length)(hb:∀b∈m,b<256)
  (hk:Q2B S.P.a.mem m ((tb i).lf (s/16)+16*(s%16)) 16) (ha:Q0j m ((tb i).lf (s/16)+16*(s%16))=Q0q o) (Ae:Q0j m ((tb i).lf (s/16)+16*(s%16)+8)=Q0L o) (hn:(xn'++((tb i).setE s o).nds).Perm (xn++(tb i).nds)) :
  (S.setP (S.P.setA m)).Ok fr N K/\TPX (S.setP (S.P.setA m)) (updT tb i ((tb i).setE s o)) own xl xn':=by
 have Ao:=Q1B ok.inv.len hi;have hL:=t.leaf Ao (by omega:s/16<16) hl;have Cn:(tb i).lf (s/16)<=(tb i).lf (s/16)+16*(s%16)/\(tb i).lf (s/16)+16*(s%16)+16<=(tb i).lf (s/16)+Q0d 7:=by rw[Q2f];omega
 have AO:∀{j' a':Nat},a'∈S.P.usedOf j'->¬(7=j'/\(tb i).lf (s/16)=a')->Kept S.P.a.mem m a' (Q0d j'):=fun E4 Ab=>Q2C ok hL Cn.1 Cn.2 hk E4 Ab
 have A9:((tb i).setE s o).lvs=(tb i).lvs:=rfl;obtain⟨A,B,e1,e2⟩:=Q3G TB.lvs tb Ao ((tb i).setE s o);obtain⟨A',B',e3,e4⟩:=Q3G TB.nds tb Ao ((tb i).setE s o);refine⟨ok.stored Ac hb (fun b Al=>?_),fun j q hj q1 q2=>?_,fun j q hj hq=>?_,?_,?_,fun id=>?_⟩
 ·have:=AO Al (by omega);exact(this.sub (b:=b) (k:=8) (Z9s _) (by show b+8<=b+64;omega)).word
 ·show(updT tb i _ j).In m q.at_;have By:S.l[j]?=some q:=hj;have CC:=Q1B ok.inv.len By;by_cases e:j=i
  ·subst e;rw[updT_same];have Jn:q=p:=by rw[hi] at By;exact(J0g By).symm
   subst Jn;refine(t.tin j q hi h1 h2).set hs hl hk ha Ae ?_ (fun k BZ hkne Bp=>?_)
   ·have:=Q2R ok.inv.mem.pool (Q1a ok hi h1 h2) hL (by omega);exact this
   ·have Ab:=t.leaf_ne ok Ao Ao BZ (by omega:s/16<16) Bp hl (fun e=>hkne e.2);exact Q2R ok.inv.mem.pool (t.leaf Ao BZ Bp) hL (fun e=>Ab e.2)
  ·rw[Q0K e];refine(t.tin j q By q1 q2).kept (AO (Q1a ok By q1 q2) (by omega)) fun k BZ Bp=>?_
   exact AO (t.leaf CC BZ Bp) (fun e'=>t.leaf_ne ok Ao CC (by omega:s/16<16) BZ hl Bp (fun e''=>e e''.1.symm) e'.2)
 ·have By:S.l[j]?=some q:=hj;have e:j≠i:=fun e=>by
   subst e;rw[hi] at By;cases By;exact hq ⟨h1,h2⟩
  rw[Q0K e];exact t.nil j q By hq
 ·show(xl++Q2y _).Perm (S.P.usedOf 7);have:Q2y (updT tb i ((tb i).setE s o))=Q2y tb:=by
   unfold Q2y;rw[e1,e2,A9]
  rw[this];exact t.lvs
 ·show(xn'++Q3n _).Perm (S.P.usedOf 6);refine List.Perm.trans ?_ t.nds;unfold Q3n;rw[e3,e4];have r:∀(X Y:List Nat),(X++(A'++Y++B')).Perm (X++Y++(A'++B')):=fun X Y=>by
   rw[J0j A' Y B',J0j X Y];refine J2a X ?_;rw[<- J0j,<- J0j];exact J1X.append_right B'
  exact(r _ _).trans ((hn.append_right _).trans (r _ _).symm)
 ·show S.xc id=xcOf S.l _ id+_;rw[Q7t Ao hi,t.xc];have hc:((tb i).setE s o).cost=(tb i).cost+48*(((tb i).setE s o).nds.length:Int)-48*((tb i).nds.length:Int):=by
   unfold TB.cost;rw[A9];omega
  have EX:=hn.length_eq;rw[Z9V,Z9V] at EX;rw[hc];by_cases hid:id=own
  ·subst hid;rw[if_pos rfl,if_pos rfl,if_pos Am];omega
  ·rw[if_neg hid,if_neg hid,if_neg (by omega)];omega
theorem TPX.rootw(ok:S.Ok fr N K)(t:TPX S tb own xl xn){i k:Nat}{p:Pl}(hi:S.l[i]?=some p)(h1:p.st=1)(h2:p.kind=2)(Am:(p.fac:Int)=own)(BZ:k<16){L:Nat}{xl':List Nat}{m:List Nat}(Ac:m.length=S.P.a.mem.length)(hb:∀b∈m,b<256)
  (hk:Q2B S.P.a.mem m (p.at_+8*k) 8) (Bg:((tb i).setL k L).In m p.at_) (hn:(xl'++((tb i).setL k L).lvs).Perm (xl++(tb i).lvs)) :
  (S.setP (S.P.setA m)).Ok fr N K/\TPX (S.setP (S.P.setA m)) (updT tb i ((tb i).setL k L)) own xl' xn:=by
 have Ao:=Q1B ok.inv.len hi;have hT:=Q1a ok hi h1 h2;have Cn:p.at_<=p.at_+8*k/\p.at_+8*k+8<=p.at_+Q0d 2:=by
  have:Q0d 2=128:=rfl;omega
 have AO:∀{j' a':Nat},a'∈S.P.usedOf j'->¬(2=j'/\p.at_=a')->Kept S.P.a.mem m a' (Q0d j'):=fun E4 Ab=>Q2C ok hT Cn.1 Cn.2 hk E4 Ab
 have A9:((tb i).setL k L).nds=(tb i).nds:=rfl;obtain⟨A,B,e1,e2⟩:=Q3G TB.lvs tb Ao ((tb i).setL k L);obtain⟨A',B',e3,e4⟩:=Q3G TB.nds tb Ao ((tb i).setL k L);refine⟨ok.stored Ac hb (fun b Al=>?_),fun j q hj q1 q2=>?_,fun j q hj hq=>?_,?_,?_,fun id=>?_⟩
 ·have:=AO Al (by omega);exact(this.sub (b:=b) (k:=8) (Z9s _) (by show b+8<=b+64;omega)).word
 ·show(updT tb i _ j).In m q.at_;have By:S.l[j]?=some q:=hj;have CC:=Q1B ok.inv.len By;by_cases e:j=i
  ·subst e;rw[updT_same];have Jn:q=p:=by rw[hi] at By;exact(J0g By).symm
   subst Jn;exact Bg
  ·rw[Q0K e];refine(t.tin j q By q1 q2).kept (AO (Q1a ok By q1 q2) (fun e'=>?_)) fun k' hk16' Bp=>AO (t.leaf CC hk16' Bp) (by omega)
   have:=Q2g ok hi By (fun e''=>e e''.symm) h1 q1;rw[h2,q2,Z2P] at this;omega
 ·have By:S.l[j]?=some q:=hj;have e:j≠i:=fun e=>by
   subst e;rw[hi] at By;cases By;exact hq ⟨h1,h2⟩
  rw[Q0K e];exact t.nil j q By hq
 ·show(xl'++Q2y _).Perm (S.P.usedOf 7);refine List.Perm.trans ?_ t.lvs;unfold Q2y;rw[e1,e2];have r:∀(X Y:List Nat),(X++(A++Y++B)).Perm (X++Y++(A++B)):=fun X Y=>by
   rw[J0j A Y B,J0j X Y];refine J2a X ?_;rw[<- J0j,<- J0j];exact J1X.append_right B
  exact(r _ _).trans ((hn.append_right _).trans (r _ _).symm)
 ·show(xn++Q3n _).Perm (S.P.usedOf 6);have:Q3n (updT tb i ((tb i).setL k L))=Q3n tb:=by
   unfold Q3n;rw[e3,e4,A9]
  rw[this];exact t.nds
 ·show S.xc id=xcOf S.l _ id+_;rw[Q7t Ao hi,t.xc];have hc:((tb i).setL k L).cost=(tb i).cost+256*(((tb i).setL k L).lvs.length:Int)-256*((tb i).lvs.length:Int):=by
   unfold TB.cost;rw[A9];omega
  have EX:=hn.length_eq;rw[Z9V,Z9V] at EX;rw[hc];by_cases hid:id=own
  ·subst hid;rw[if_pos rfl,if_pos rfl,if_pos Am];omega
  ·rw[if_neg hid,if_neg hid,if_neg (by omega)];omega
end
structure Alt(S S':CO)(own:Int):Prop where
 c:S'.c=S.c
 t:S'.t=S.t
 l:S'.l=S.l
 g:S'.g=S.g
 per:S'.period=S.period
 now:S'.now=S.now
 rv:S'.rv=S.rv
 ts:S'.ts=S.ts
 same:SameP S.P S'.P
 next:S'.P.q.next=S.P.q.next
 acc:∀id e,find S.P.q.E id=some e->∃e',find S'.P.q.E id=some e'/\e'.q={e.q with charged:=e'.q.charged}/\(id≠own->e'=e)
 ids:S'.P.q.E.map En.id=S.P.q.E.map En.id
 kept:∀r∈S.l,r.is=true->r.kind≠2->Kept S.P.a.mem S'.P.a.mem r.at_ (costK r.kind)
theorem Alt.refl(S:CO)(own:Int):Alt S S own:=⟨rfl,rfl,rfl,rfl,rfl,rfl,rfl,rfl,SameP.refl _,rfl,fun _ e h=>⟨e,h,rfl,fun _=>rfl⟩,rfl,fun _ _ _ _=>Kept.refl _ _ _⟩
theorem Alt.trans{S S1 S2:CO}{own:Int}(h:Alt S S1 own)(k:Alt S1 S2 own):Alt S S2 own:=by
 refine⟨k.c.trans h.c,k.t.trans h.t,k.l.trans h.l,k.g.trans h.g,k.per.trans h.per,k.now.trans h.now,k.rv.trans h.rv,k.ts.trans h.ts,h.same.trans k.same,k.next.trans h.next,fun id e he=>?_,k.ids.trans h.ids,fun r hr hi hk=>?_⟩
 ·obtain⟨e1,a1,a2,a3⟩:=h.acc id e he;obtain⟨e2,b1,b2,b3⟩:=k.acc id e1 a1;refine⟨e2,b1,?_,fun Ab=>(b3 Ab).trans (a3 Ab)⟩;rw[b2,a2]
 ·exact(h.kept r hr hi hk).trans (k.kept r (by rw[h.l];exact hr) hi hk)
theorem Alt.got{S:CO}{fr:List Nat}{N K:Nat}(ok:S.Ok fr N K){own:Int}{n a:Nat}{P':PL}(g:GetOk S.P fr own n a P'):Alt S (S.paid P' own ((Q0d n:Nat):Int)) own:=by
 have gm:=g.gotM ok.inv.mem.pool;obtain⟨e,q1,q2,q3⟩:=g.q;refine⟨rfl,rfl,rfl,rfl,rfl,rfl,rfl,rfl,gm.same,by show P'.q.next=_;rw[q3],fun id x hx=>?_,?_,fun r hr hi hk=>?_⟩
 ·show ∃e',find P'.q.E id=some e'/\_;rw[q3];by_cases hid:id=own
  ·subst hid;rw[q1] at hx;cases hx;exact⟨_,Q0n q1 _,rfl,fun h=>absurd rfl h⟩
  ·exact⟨x,by rw[Q0F hid];exact hx,rfl,fun _=>rfl⟩
 ·show P'.q.E.map En.id=_;rw[q3];exact Q1W _ _ _
 ·exact gm.keptL ok.inv.mem r hr hi
theorem Alt.put{S:CO}{fr:List Nat}{N K:Nat}(ok:S.Ok fr N K){own:Int}{n a:Nat}{P':PL}(g:PutOk S.P fr own n a P'):Alt S (S.paid P' own (-((Q0d n:Nat):Int))) own:=by
 have bm:=g.backM ok.inv.mem.pool;obtain⟨e,q1,q2,q3⟩:=g.q;refine⟨rfl,rfl,rfl,rfl,rfl,rfl,rfl,rfl,bm.same,by show P'.q.next=_;rw[q3],fun id x hx=>?_,?_,fun r hr hi hk=>?_⟩
 ·show ∃e',find P'.q.E id=some e'/\_;rw[q3];by_cases hid:id=own
  ·subst hid;rw[q1] at hx;cases hx;exact⟨_,Q0n q1 _,rfl,fun h=>absurd rfl h⟩
  ·exact⟨x,by rw[Q0F hid];exact hx,rfl,fun _=>rfl⟩
 ·show P'.q.E.map En.id=_;rw[q3];exact Q1W _ _ _
 ·show Kept S.P.a.mem P'.a.mem _ _;rw[bm.mem];exact Kept.refl _ _ _
theorem Alt.mem{S:CO}{fr:List Nat}{N K:Nat}(ok:S.Ok fr N K)(own:Int){j a b n:Nat}{m:List Nat}(hj:j=2∨j=7)(ha:a∈S.P.usedOf j)(h1:a<=b)(h2:b+n<=a+Q0d j)(Ac:m.length=S.P.a.mem.length)(hk:Q2B S.P.a.mem m b n):Alt S (S.setP (S.P.setA m)) own:=by
 refine⟨rfl,rfl,rfl,rfl,rfl,rfl,rfl,rfl,⟨rfl,rfl,rfl,rfl,rfl,rfl,Ac⟩,rfl,fun _ e h=>⟨e,h,rfl,fun _=>rfl⟩,rfl,fun r hr hi An=>?_⟩;show Kept S.P.a.mem m _ _;by_cases h8:r.kind=8
 ·obtain⟨g,hg,e⟩:=ok.inv.mem.frame hr hi h8;have:=Q1w ok.inv.mem.pool hg ha;rw[h8,costK_8,e];exact hk _ _ (by omega)
 ·have hu:=ok.inv.mem.used hr hi h8;have AQ:=(ok.inv.mem.kind r hr hi).resolve_left h8;rw[Q0Z h8];exact Q2C ok ha h1 h2 hk hu (fun e=>by omega)
theorem costs_67:Q0O 6=48/\Q0O 7=256:=⟨rfl,rfl⟩
theorem CO.stepPaid{w w':World}{S:CO}(h:Sep w S.hl)(P':PL)(own d:Int)(e:P'.p=S.P.p)(s:Step S.P.hl P'.hl w w'):Step S.hl (S.paid P' own d).hl w w':=CO.stepP h P' e s
theorem CO.stepMem{w w':World}{S:CO}(h:Sep w S.hl)(m:List Nat)(s:Step S.P.a.hl ({S.P.a with mem:=m}:AN).hl w w'):Step S.hl (S.setP (S.P.setA m)).hl w w':=
 CO.stepP h (S.P.setA m) rfl (PL.stepA (CO.sP h) m s)
def blk(k i:Nat):Nat×Nat:=(1024*i*2 ^ k,k)
abbrev encI(x:Int):Value:=.int .i64 x
theorem Z7J:(prog.info? 3).map (fun i=>(i.zero,i.size,i.bytes))=some (some (.int .i64 0),1,8):=by kernel_rfl
def AsideV(H:HL)(cs:List Value)(a:Option Addr)(w:World):Prop:=∀(j:Nat) (v:Value),cs[j]?=some v->∃g,a=some ⟨g,0,none⟩/\g∉keys H/\g<w.heap.size/\w.cell? ⟨g,j,none⟩=some v
theorem AsideV.step{H H':HL}{cs:List Value}{a:Option Addr}{w w':World}(h:AsideV H cs a w)(st:Step H H' w w'):AsideV H' cs a w':=fun j x hj=>by
 obtain⟨g,h1,h2,h3,h4⟩:=h j x hj;refine⟨g,h1,fun hk=>?_,Z9u h3 st.chg.size,(World.cell?_of_block (w:=w) (st.chg.block g h3 h2)).trans h4⟩;rcases st.new g hk with h'|h'
 ·exact h2 h'
 ·omega
theorem Z2U{w:World}{a:AN}(h:Sep w a.hl)(at_:Nat)(h8:at_%8=0)(hl:at_+16<=a.mem.length)(hm:a.mem.length<=1073741824) :
  Calls prog 121 #[.pointer (some ⟨a.a,0,none⟩),.int .i64 at_,.int .i64 2] w fun r w'=>r=.returned (.tuple #[.slice (some ⟨a.mb,at_,none⟩) 16 (a.mem.length-at_),.int .i64 0])/\w=w':=by
 have k1:=Q4K h at_ 16 (by omega) hl hm;have h1:(at_:Int)%8=0:=by omega
 have h2:((at_:Int)%8 != 0)=false:=by simp;omega
 have h3:((0:Int) != 0)=false:=by simp
 clear h h8;generalize a.mem.length=l at *
 go_enter func121,ntmps121;go_wp2_with (go_at_call 113;refine k1.mono ?_;rintro e w'⟨rfl,rfl⟩);go_ret2;exact⟨rfl,rfl⟩
theorem Q8t(x y k:Nat)(hk:k<16):(Q0c x++Q0c y)[k]?.getD 0=(if k<8 then x else y)/2 ^ (8*(k%8))%256:=by
 have hl:(Q0c x).length=8:=rfl;by_cases h:k<8
 ·rw[J2u (by rw[hl];exact h),Q2O x k h,if_pos h,J0E h]
 ·rw[J2v (by rw[hl];omega),hl,Q2O y (k-8) (by omega),if_neg h,show k%8=k-8 by omega]
theorem Z2V{w:World}{a:AN}(h:Sep w a.hl)(at_ x y:Nat)(h8:at_%8=0)(hl:at_+16<=a.mem.length)(hm:a.mem.length<=1073741824)(hx:x<18446744073709551616)(hy:y<18446744073709551616)(g:Nat)(hg:w.cell? ⟨g,0,none⟩=some (.int .u64 x))(BN:w.cell? ⟨g,1,none⟩=some (.int .u64 y))(Fu:g<w.heap.size)(E3:g∉keys a.hl) :
  Calls prog 57 #[.pointer (some ⟨a.a,0,none⟩),.int .i64 at_,.slice (some ⟨g,0,none⟩) 2 2] w fun r w'=>r=.returned (.int .i64 0)/\Step a.hl ({a with mem:=put_ a.mem at_ (Q0c x++Q0c y)}:AN).hl w w':=by
 have k1:=Z2U h at_ h8 hl hm;have F8:(Q0c x++Q0c y).length=16:=rfl;have Gq:Hid (Step a.hl ({a with mem:=put_ a.mem at_ ((Q0c x++Q0c y).take 0)}:AN).hl w w):=by
  show Step _ _ _ _;rw[J2H,Q6s];exact Step.refl h
 have HN:Hid (∀k wr,k<16->Step a.hl ({a with mem:=put_ a.mem at_ ((Q0c x++Q0c y).take k)}:AN).hl w wr->(∃old,wr.cell? ⟨a.mb,at_+k,none⟩=some old)/\wr.frozen? ⟨a.mb,at_+k,none⟩=false/\wr.cell? ⟨g,0,none⟩=some (.int .u64 x)/\wr.cell? ⟨g,1,none⟩=some (.int .u64 y)/\Step a.hl ({a with mem:=put_ a.mem at_ ((Q0c x++Q0c y).take (k+1))}:AN).hl w (wr.setCell ⟨a.mb,at_+k,none⟩ (.int .u8 ((Q0c x++Q0c y)[k]?.getD 0:Nat)))):=by
  intro k wr hk hs;have eb:=hs.chg.block g Fu E3;refine⟨⟨_,AN.bcell hs.sep (at_+k) (by show at_+k<(put_ _ _ _).length;rw[Q1g _ _ _ (by rw[J1C,F8];omega)];omega)⟩,AN.bfree hs.sep (at_+k),(World.cell?_of_block (w:=w) eb).trans hg,(World.cell?_of_block (w:=w) eb).trans BN,?_⟩;have h1:=AN.setB hs.sep (at_+k) ((Q0c x++Q0c y)[k]?.getD 0);have h2:=Q4v a.mem at_ (Q0c x++Q0c y) k (by rw[F8];exact hk) (by rw[F8];exact hl);have:=hs.trans h1
  simpa[h2] using this
 have AK:Hid ((Q0c x++Q0c y).take 16=Q0c x++Q0c y):=J1h (by rw[F8];exact Z9s _);have HV:=Q0a (fun k hk=>Q8t x y k hk);generalize hbs:Q0c x++Q0c y=bs at *
 clear h h8 hg BN E3 Fu hbs F8;generalize a.hl=H at *
 generalize a.mem.length=l at *
 go_enter func57,ntmps57;go_wp2_with fail;refine k1.mono ?_;rintro e w'⟨rfl,rfl⟩;go_wp2_with fail
 go_loopw [20] (fun iv wr=>∃k:Nat,k<=16/\iv=.int .i64 k/\Step H ({a with mem:=put_ a.mem at_ (bs.take k)}:AN).hl w wr) (fun iv _=>16-(intOf iv).toNat)
 case atStart=>exact⟨0,by omega,rfl,Gq.out⟩
 case round =>
  obtain⟨k,hk,rfl,hs⟩:=hrel;by_cases Aa:k<16
  ·obtain⟨⟨old,M8⟩,hf,Og,Pm,Bi⟩:=HN.out k wr Aa hs;have hv:=HV.out k Aa;clear hs;obtain⟨j,hj⟩:∃j,j=k%8:=⟨_,rfl⟩
   have Ri:j<8:=by omega
   have A5:(k:Int)%8=(j:Int):=by omega
   have An:k%8=j:=hj.symm;rw[An] at hv;by_cases h8:k<8
   ·have Bp:(k:Int)/8=0:=by omega
    rw[if_pos h8] at hv;have LE:IntKind.u8.wrap ((x:Int)/2 ^ (8*j))=((bs[k]?.getD 0:Nat):Int):=by
     rw[hv,IntKind.wrap_u8,show((x:Int)/2 ^ (8*j))=((x/2 ^ (8*j):Nat):Int) from by rw[J1d,J1e];rfl];omega
    clear hv hj;generalize bs[k]?.getD 0=v at *
    go_wp2_with fail;go_roundw
    case rel=>exact⟨k+1,by omega,by go_num,Bi⟩
    case measure=>simp[intOf];omega
   ·have Bp:(k:Int)/8=1:=by omega
    rw[if_neg h8] at hv;have LE:IntKind.u8.wrap ((y:Int)/2 ^ (8*j))=((bs[k]?.getD 0:Nat):Int):=by
     rw[hv,IntKind.wrap_u8,show((y:Int)/2 ^ (8*j))=((y/2 ^ (8*j):Nat):Int) from by rw[J1d,J1e];rfl];omega
    clear hv hj;generalize bs[k]?.getD 0=v at *
    go_wp2_with fail;go_roundw
    case rel=>exact⟨k+1,by omega,by go_num,Bi⟩
    case measure=>simp[intOf];omega
  ·obtain rfl:k=16:=by omega
   go_wp2_with fail;go_ret;exact⟨rfl,by have:=hs;rw[AK.out] at this;exact this⟩
def TblC(S:CO)(p:Pl)(g:Nat)(w:World):Prop:=AsideV S.hl [ptr S.P.p,.int .i64 (p.fac:Int),.int .i64 (p.at_:Int)] (some ⟨g,0,none⟩) w
theorem TblC.c0{S:CO}{p:Pl}{g:Nat}{w:World}(h:TblC S p g w):w.cell? ⟨g,0,none⟩=some (.pointer (some ⟨S.P.p,0,none⟩)):=by
 obtain⟨g',e,_,_,c⟩:=h 0 _ rfl;cases e;exact c
theorem TblC.c1{S:CO}{p:Pl}{g:Nat}{w:World}(h:TblC S p g w):w.cell? ⟨g,1,none⟩=some (.int .i64 (p.fac:Int)):=by
 obtain⟨g',e,_,_,c⟩:=h 1 _ rfl;cases e;exact c
theorem TblC.c2{S:CO}{p:Pl}{g:Nat}{w:World}(h:TblC S p g w):w.cell? ⟨g,2,none⟩=some (.int .i64 (p.at_:Int)):=by
 obtain⟨g',e,_,_,c⟩:=h 2 _ rfl;cases e;exact c
structure TT(S:CO)(t:TB)(p:Pl)(g:Nat)(w:World):Prop where
 sep:Sep w S.hl
 pool:∃fr,S.P.Ok fr
 tab:TblC S p g w
 tin:t.In S.P.a.mem p.at_
 al:p.at_%8=0/\p.at_+128<=S.P.a.mem.length
 lv:∀k,k<16->t.lf k≠0->t.lf k%8=0/\t.lf k+256<=S.P.a.mem.length
theorem TT.grown{S:CO}{t:TB}{p:Pl}{g:Nat}{w w':World}(h:TT S t p g w)(hb:Below w.heap.size w w'):TT S t p g w':=
 ⟨(h.sep.grown hb).sep,h.pool,h.tab.step (h.sep.grown hb),h.tin,h.al,h.lv⟩
theorem TPX.tt{S:CO}{fr:List Nat}{N K:Nat}{tb:Nat->TB}{own:Int}{xl xn:List Nat}(ok:S.Ok fr N K)(t:TPX S tb own xl xn){i:Nat}{p:Pl}{g:Nat}{w:World}(hi:S.l[i]?=some p)(h1:p.st=1)(h2:p.kind=2)(hs:Sep w S.hl)(hg:TblC S p g w):TT S (tb i) p g w:=by
 have Ao:=Q1B ok.inv.len hi;have hu:=Q1a ok hi h1 h2;have hm:=Q0l ok.inv.mem.pool hu;have JC:Q0d 2=128:=rfl;refine⟨hs,⟨fr,ok.inv.mem.pool⟩,hg,t.tin i p hi h1 h2,⟨Q1N ok.inv.mem.pool hu,by omega⟩,fun k hk h0=>?_⟩;have hl:=t.leaf Ao hk h0;have hm:=Q0l ok.inv.mem.pool hl;rw[Q2f] at hm;exact⟨Q1N ok.inv.mem.pool hl,hm.1⟩
section
variable {w:World} {S:CO} {t:TB} {p:Pl} {g:Nat}
theorem Q3J(h:TT S t p g w)(a:Nat)(h8:a%8=0)(hl:a+8<=S.P.a.mem.length):Calls prog 178 #[.pointer (some ⟨g,0,none⟩),.int .i64 a] w fun r w'=>r=.returned (.int .u64 (Q0j S.P.a.mem a:Nat))/\w=w':=by
 obtain⟨fr,hp⟩:=h.pool;have c0:=h.tab.c0;have ka:=Q0y (CO.sP h.sep);have kl:=Q8e (PL.sA (CO.sP h.sep)) hp.bytes a h8 hl (Q0f hp);clear h hp h8 hl;unfold ptr at *
 generalize Q0j S.P.a.mem a=x at *
 go_enter func178,ntmps178;go_wp2_with (first|(go_at_call 50;refine ka.mono ?_;rintro e w'⟨rfl,rfl⟩)|(go_at_call 58;refine kl.mono ?_;rintro e w'⟨rfl,rfl⟩));go_ret;exact⟨rfl,rfl⟩
theorem Q5a(h:TT S t p g w)(s:Nat)(hs:s<256):Calls prog 179 #[.pointer (some ⟨g,0,none⟩),.int .i64 s] w fun r w'=>r=.returned (.int .i64 ((p.at_+8*(s/16):Nat):Int))/\w=w':=by
 have c2:=h.tab.c2;obtain⟨fr,hp⟩:=h.pool;have hm:=Q0f hp;have Ba:=h.al.2;have h1:(s:Int).tdiv 16=((s/16:Nat):Int):=by
  rw[J0Z (by omega)];omega
 have h2:(s:Int)/16=((s/16:Nat):Int):=by omega
 have hk:s/16<16:=by omega
 have e:((p.at_+8*(s/16):Nat):Int)=(p.at_:Int)+((s/16:Nat):Int)*8:=by omega
 rw[e];generalize s/16=k at *
 generalize p.at_=a at *
 have ha:(a:Int)<=1073741824:=by omega
 have An:(k:Int)<16:=by omega
 clear h hp hm Ba hk e;go_enter func179,ntmps179
 go_wp2
 go_ret;exact⟨by first|rfl|(simp only[h1,h2])|(rw[h2]),rfl⟩
theorem Q4z(w:World)(z:Int):Calls prog 175 #[.int .i64 z] w fun r w'=>r=.returned (.bool (decide (0<=z/\z<256)))/\w=w':=by
 by_cases h0:0<=z
 ·by_cases h1:z<256
  ·rw[decide_eq_true (show 0<=z/\z<256 from⟨h0,h1⟩)];go_enter func175,ntmps175
   go_wp2
   go_ret;exact⟨rfl,rfl⟩
  ·rw[decide_eq_false (show ¬(0<=z/\z<256) from fun h=>h1 h.2)];have hd:decide (z<256)=false:=by simpa using h1
   go_enter func175,ntmps175
   go_wp2
   go_ret;exact⟨rfl,rfl⟩
 ·rw[decide_eq_false (show ¬(0<=z/\z<256) from fun h=>h0 h.1)];have hd:decide (0<=z)=false:=by simpa using h0
  go_enter func175,ntmps175
  go_wp2
  go_ret;exact⟨rfl,rfl⟩
theorem Q2D(w:World)(L s:Nat)(hL:L<=1073741824)(hs:s<256):Calls prog 177 #[.int .i64 L,.int .i64 s] w fun r w'=>r=.returned (.int .i64 ((L+16*(s%16):Nat):Int))/\w=w':=by
 have h1:(s:Int).tmod 16=((s%16:Nat):Int):=by
  rw[J1a (by omega)];omega
 have h2:(s:Int)%16=((s%16:Nat):Int):=by omega
 have hk:s%16<16:=by omega
 have e:((L+16*(s%16):Nat):Int)=(L:Int)+((s%16:Nat):Int)*16:=by omega
 rw[e];generalize s%16=k at *
 have ha:(L:Int)<=1073741824:=by omega
 have An:(k:Int)<16:=by omega
 clear hk e hL;go_enter func177,ntmps177
 go_wp2
 go_ret;exact⟨by first|rfl|(simp only[h1,h2])|(rw[h2]),rfl⟩
theorem Q3K(h:TT S t p g w)(s:Nat)(hs:s<256):Calls prog 176 #[.pointer (some ⟨g,0,none⟩),.int .i64 s] w fun r w'=>r=.returned (.int .i64 ((t.lf (s/16):Nat):Int))/\w=w':=by
 have hk:s/16<16:=by omega
 have kr:=Q5a h s hs;have Ba:=h.al;have kw:=Q3J h (p.at_+8*(s/16)) (by omega) (by omega);rw[h.tin.root (s/16) hk] at kw;obtain⟨fr,hp⟩:=h.pool;have hm:=Q0f hp;have EL:((t.lf (s/16):Nat):Int)<=1073741824:=by
  by_cases h0:t.lf (s/16)=0
  ·omega
  ·have:=(h.lv _ hk h0).2;omega
 clear h hp hm Ba hk;generalize t.lf (s/16)=x at *
 generalize (p.at_+8*(s/16):Nat)=y at *
 go_enter func176,ntmps176;go_wp2_with (first|(go_at_call 179;refine kr.mono ?_;rintro e w'⟨rfl,rfl⟩)|(go_at_call 178;refine kw.mono ?_;rintro e w'⟨rfl,rfl⟩));go_ret;exact⟨rfl,rfl⟩
end
def TB.at'(t:TB)(z:Int):Option Ent:=if 0<=z/\z<256 then t.en z.toNat else none
def getV(o:Option Ent):Ending:=.returned (.tuple #[.int .u64 (Q0q o:Nat),.int .u64 (Q0L o:Nat)])
section
variable {w:World} {S:CO} {t:TB} {p:Pl} {g:Nat}
theorem Q6E(h:TT S t p g w)(z:Int):Calls prog 102 #[.pointer (some ⟨g,0,none⟩),.int .i64 z] w fun r w'=>r=getV (t.at' z)/\w=w':=by
 have km:=Q4z w z;by_cases hz:0<=z/\z<256
 ·obtain⟨s,rfl⟩:=J0N hz.1;have hs:s<256:=by omega
  rw[decide_eq_true hz] at km;have ho:t.at' (s:Int)=t.en s:=by unfold TB.at';rw[if_pos hz,J0o]
  rw[ho];have kl:=Q3K h s hs;by_cases h0:t.lf (s/16)=0
  ·rw[h.tin.hole s hs h0];rw[h0] at kl;unfold getV Q0q Q0L;clear h h0 ho hz;go_enter func102,ntmps102;go_wp2_with (first|(go_at_call 175;refine km.mono ?_;rintro e w'⟨rfl,rfl⟩)|(go_at_call 176;refine kl.mono ?_;rintro e w'⟨rfl,rfl⟩));go_ret2;exact⟨rfl,rfl⟩
  ·obtain⟨e1,e2⟩:=h.tin.ent s hs h0;obtain⟨l8,ll⟩:=h.lv (s/16) (by omega) h0;obtain⟨fr,hp⟩:=h.pool;have hm:=Q0f hp;have ks:=Q2D w (t.lf (s/16)) s (by omega) hs;have k0:=Q3J h (t.lf (s/16)+16*(s%16)) (by omega) (by omega);have k1:=Q3J h (t.lf (s/16)+16*(s%16)+8) (by omega) (by omega);rw[e1] at k0;rw[e2] at k1;have hx:t.lf (s/16)+16*(s%16)<=1073741824:=by omega
   have Ab:(((t.lf (s/16):Nat):Int)==0)=false:=by simpa using h0
   have hc:((t.lf (s/16)+16*(s%16)+8:Nat):Int)=((t.lf (s/16)+16*(s%16):Nat):Int)+8:=by omega
   rw[hc] at k1;unfold getV;generalize Q0q (t.en s)=ca at *
   generalize Q0L (t.en s)=cb at *
   generalize (t.lf (s/16)+16*(s%16):Nat)=x at *
   generalize t.lf (s/16)=L at *
   have Rl:(x:Int)<=1073741824:=by omega
   clear h h0 ho hz e1 e2 l8 ll hp hm hc hx;go_enter func102,ntmps102;go_wp2_with fail;refine km.mono ?_;rintro e w'⟨rfl,rfl⟩;go_wp2_with fail;refine kl.mono ?_;rintro e w'⟨rfl,rfl⟩;go_wp2_with fail;refine kl.mono ?_;rintro e w'⟨rfl,rfl⟩;go_wp2_with fail;refine ks.mono ?_;rintro e w'⟨rfl,rfl⟩;go_wp2_with fail;refine k0.mono ?_;rintro e w'⟨rfl,rfl⟩;go_wp2_with fail;refine k1.mono ?_;rintro e w'⟨rfl,rfl⟩;go_wp2_with fail
   (try go_ret2);exact⟨rfl,rfl⟩
 ·rw[decide_eq_false hz] at km;have ho:t.at' z=none:=by unfold TB.at';rw[if_neg hz]
  rw[ho];unfold getV Q0q Q0L;clear h ho hz;go_enter func102,ntmps102;go_wp2_with (go_at_call 175;refine km.mono ?_;rintro e w'⟨rfl,rfl⟩);go_ret2;exact⟨rfl,rfl⟩
def TB.noneIn(t:TB)(k:Nat):Bool:=(List.range 16).all fun j=>(t.en (16*k+j)).isNone
theorem Z0E(h:TT S t p g w)(k:Nat)(hk:k<16)(h0:t.lf k≠0):Calls prog 215 #[.pointer (some ⟨g,0,none⟩),.int .i64 ((t.lf k:Nat):Int)] w fun r w'=>r=.returned (.bool (t.noneIn k))/\w=w':=by
 obtain⟨fr,hp⟩:=h.pool;have hm:=Q0f hp;obtain⟨l8,ll⟩:=h.lv k hk h0;have HC:Hid (∀j:Nat,j<16->(Calls prog 177 #[.int .i64 ((t.lf k:Nat):Int),.int .i64 j] w fun r w'=>r=.returned (.int .i64 ((t.lf k+16*j:Nat):Int))/\w=w')/\Calls prog 178 #[.pointer (some ⟨g,0,none⟩),.int .i64 ((t.lf k+16*j:Nat):Int)] w fun r w'=>r=.returned (.int .u64 (Q0q (t.en (16*k+j)):Nat))/\w=w'):=fun j hj=>by
  have hd:(16*k+j)/16=k:=by omega
  have OF:(16*k+j)%16=j:=by omega
  have e:=(h.tin.ent (16*k+j) (by omega) (by rw[hd];exact h0)).1;rw[hd,OF] at e;have k1:=Q2D w (t.lf k) j (by omega) (by omega);rw[J0E hj] at k1;have k2:=Q3J h (t.lf k+16*j) (by omega) (by omega);rw[e] at k2;exact⟨k1,k2⟩
 have HT:Hid (∀j:Nat,(∀i:Nat,i<j->t.en (16*k+i)=none)->j=16->t.noneIn k=true):=fun j hj e=>by
  subst e;unfold TB.noneIn;rw[J2m];intro i hi;rw[hj i (Z9I.1 hi)];rfl
 have HF:Hid (∀j:Nat,j<16->t.en (16*k+j)≠none->t.noneIn k=false):=fun j hj Ab=>by
  unfold TB.noneIn;rw[List.all_eq_false];exact⟨j,Z9I.2 hj,by cases hx:t.en (16*k+j) with|none=>exact absurd hx Ab|some e=>simp⟩
 clear h hp hm l8 ll h0;go_enter func215,ntmps215;go_wp2_with fail
 go_loopg [6] 16 (fun gk iv wr=>∃j:Nat,iv=.int .i64 j/\j+gk=16/\(∀i,i<j->t.en (16*k+i)=none)/\w=wr)
 case atStart=>exact⟨0,rfl,rfl,fun i hi=>by omega,rfl⟩
 case round =>
  obtain⟨j,rfl,Cb,A8,rfl⟩:=hrel;have Eo:=Q0a A8;have GP:=Q0a Cb;clear A8 Cb;by_cases hj:j<16
  ·obtain⟨k1,k2⟩:=HC.out j hj;have Ia:(j:Int)<16:=by omega
   cases he:t.en (16*k+j) with
   | none =>
    rw[he] at k2;have HE:=Q0a he;unfold Q0q at k2;generalize (t.lf k+16*j:Nat)=x at *
    generalize t.lf k=L at *
    clear he;go_wp2_with fail;refine k1.mono ?_;rintro e w'⟨rfl,rfl⟩;go_wp2_with fail;refine k2.mono ?_;rintro e w'⟨rfl,rfl⟩;go_wp2_with fail;go_roundg (16-(j+1))
    case measure=>have:=GP.out;omega
    case rel=>exact⟨j+1,by go_num,by have:=GP.out;omega,fun i hi=>by
     by_cases e:i=j
     ·subst e;exact HE.out
     ·exact Eo.out i (by omega),rfl⟩
   | some e =>
    rw[he] at k2;have Ab:Q0q (some e)≠0:=fun hz=>by cases codeA_zero.1 hz
    have GC:(((Q0q (some e):Nat):Int) != 0)=true:=by simpa using Ab
    have QP:(((Q0q (some e):Nat):Int)==0)=false:=by simpa using Ab
    have HR:=Q0a (HF.out j hj (by rw[he];simp));generalize Q0q (some e)=ca at *
    generalize (t.lf k+16*j:Nat)=x at *
    generalize t.lf k=L at *
    clear he Ab;go_wp2_with fail;refine k1.mono ?_;rintro e w'⟨rfl,rfl⟩;go_wp2_with fail;refine k2.mono ?_;rintro e w'⟨rfl,rfl⟩;go_wp2_with fail
    (try go_ret);exact⟨by first|(rw[HR.out];done)|(rw[HR.out];rfl),rfl⟩
  ·have IZ:j=16:=by have:=GP.out;omega
   have HR:=Q0a (HT.out j Eo.out IZ);subst IZ;go_wp2_with fail;go_ret;exact⟨by first|(rw[HR.out];done)|(rw[HR.out];rfl),rfl⟩
end
theorem Q3L{w:World}{H:HL}(h:Sep w H):w.heap.size∉keys H:=fun hk=>by have:=h.lt hk;omega
section
variable {S:CO} {fr:List Nat} {N K:Nat} {tb:Nat->TB} {own:Int} {xl xn:List Nat}
theorem Q3o(ok:S.Ok fr N K)(t:TPX S tb own xl xn){i s:Nat}{p:Pl}(hi:S.l[i]?=some p)(h1:p.st=1)(h2:p.kind=2)(Am:(p.fac:Int)=own)(hs:s<256)(hl:(tb i).lf (s/16)≠0){o:Option Ent}{xn':List Nat}(hn:(xn'++((tb i).setE s o).nds).Perm (xn++(tb i).nds))
  (hA:Q0q o<18446744073709551616) (hB:Q0L o<18446744073709551616) {w:World} (A7:Sep w S.hl) :
  Calls prog 57 #[.pointer (some ⟨S.P.a.a,0,none⟩),.int .i64 (((tb i).lf (s/16)+16*(s%16):Nat):Int),.slice (some ⟨w.heap.size,0,none⟩) 2 2] (w.alloc (.cells #[.int .u64 (Q0q o:Nat),.int .u64 (Q0L o:Nat)] 83)) fun r w' =>
   r=.returned (.int .i64 0)/\∃S':CO,S'.Ok fr N K/\TPX S' (updT tb i ((tb i).setE s o)) own xl xn'/\Alt S S' own/\Step S.hl S'.hl w w':=by
 have Ao:=Q1B ok.inv.len hi;have hL:=t.leaf Ao (by omega:s/16<16) hl;have hm:=Q0l ok.inv.mem.pool hL;rw[Q2f] at hm;have h8:=Q1N ok.inv.mem.pool hL;have hb:=Q0f ok.inv.mem.pool;have sa:=A7.alloc (.cells #[.int .u64 (Q0q o:Nat),.int .u64 (Q0L o:Nat)] 83);have cn:=Cells.new w 83 [.int .u64 (Q0q o:Nat),.int .u64 (Q0L o:Nat)];have k:=Z2V (PL.sA (CO.sP sa)) ((tb i).lf (s/16)+16*(s%16)) (Q0q o) (Q0L o) (by omega) (by omega) hb hA hB w.heap.size (cn.cell 0 _ rfl) (cn.cell 1 _ rfl) (by simp) (Q3L (PL.sA (CO.sP A7)));refine k.mono ?_;rintro r w'⟨rfl,st⟩;obtain⟨m,EI⟩:∃m,m=put_ S.P.a.mem ((tb i).lf (s/16)+16*(s%16)) (Q0c (Q0q o)++Q0c (Q0L o)):=⟨_,rfl⟩
 rw[<- EI] at st;have Ac:m.length=S.P.a.mem.length:=by rw[EI];exact Q1g _ _ _ (by rw[Q0T];omega)
 have Ik:∀b∈m,b<256:=by
  rw[EI];refine Q7w ok.inv.mem.pool.bytes fun b Al=>?_
  rcases Z9Y.1 Al with Al|Al
  ·exact Q2A _ b Al
  ·exact Q2A _ b Al
 have hk:Q2B S.P.a.mem m ((tb i).lf (s/16)+16*(s%16)) 16:=by
  rw[EI];have:=Q2h (m:=S.P.a.mem) (bs:=Q0c (Q0q o)++Q0c (Q0L o)) (a:=(tb i).lf (s/16)+16*(s%16)) (by rw[Q0T];omega)
  rwa [Q0T] at this
 obtain⟨ha,Ae⟩:=Z0D (m:=S.P.a.mem) (a:=(tb i).lf (s/16)+16*(s%16)) (x:=Q0q o) (y:=Q0L o) (by omega) hA hB;rw[<- EI] at ha Ae;obtain⟨ok',t'⟩:=t.entry ok hi h1 h2 Am hs hl Ac Ik hk ha Ae hn;have st':Step S.hl (S.setP (S.P.setA m)).hl (w.alloc (.cells #[.int .u64 (Q0q o:Nat),.int .u64 (Q0L o:Nat)] 83)) w':=CO.stepMem sa m st;exact⟨rfl,_,ok',t',Alt.mem ok own (.inr rfl) hL (by omega) (by rw[Q2f];omega) Ac hk,st'.from_alloc⟩
theorem Q5R(ok:S.Ok fr N K)(t:TPX S tb own xl xn){i k:Nat}{p:Pl}(hi:S.l[i]?=some p)(h1:p.st=1)(h2:p.kind=2)(Am:(p.fac:Int)=own)(BZ:k<16){L:Nat}{xl':List Nat}(hL64:L<18446744073709551616)(hn:(xl'++((tb i).setL k L).lvs).Perm (xl++(tb i).lvs))
  (Az:((tb i).lf k=0/\L≠0/\L∈S.P.usedOf 7/\∀j,L<=j->j<L+256->S.P.a.mem[j]?=some 0)∨(L=0/\∀s,s<256->s/16=k->(tb i).en s=none)) {w:World} (A7:Sep w S.hl) :
  Calls prog 57 #[.pointer (some ⟨S.P.a.a,0,none⟩),.int .i64 ((p.at_+8*k:Nat):Int),.slice (some ⟨w.heap.size,0,none⟩) 1 1] (w.alloc (.cells #[.int .u64 (L:Nat)] 83)) fun r w' =>
   r=.returned (.int .i64 0)/\∃S':CO,S'.Ok fr N K/\TPX S' (updT tb i ((tb i).setL k L)) own xl' xn/\Alt S S' own/\Step S.hl S'.hl w w':=by
 have Ao:=Q1B ok.inv.len hi;have hT:=Q1a ok hi h1 h2;have JC:Q0d 2=128:=rfl;have hm:=Q0l ok.inv.mem.pool hT;rw[JC] at hm;have h8:=Q1N ok.inv.mem.pool hT;have hb:=Q0f ok.inv.mem.pool;have sa:=A7.alloc (.cells #[.int .u64 (L:Nat)] 83);have cn:=Cells.new w 83 [.int .u64 (L:Nat)];have kk:=Q9g (PL.sA (CO.sP sa)) (p.at_+8*k) L (by omega) (by omega) hb hL64 w.heap.size (cn.cell 0 _ rfl) (by simp) (Q3L (PL.sA (CO.sP A7)));refine kk.mono ?_;rintro r w'⟨rfl,st⟩;obtain⟨m,EI⟩:∃m,m=put_ S.P.a.mem (p.at_+8*k) (Q0c L):=⟨_,rfl⟩
 rw[<- EI] at st;have Ac:m.length=S.P.a.mem.length:=by rw[EI];exact Q1g _ _ _ (by rw[bytes8_len];omega)
 have Ik:∀b∈m,b<256:=by
  rw[EI];exact Q7w ok.inv.mem.pool.bytes (Q2A _)
 have hk:Q2B S.P.a.mem m (p.at_+8*k) 8:=by
  rw[EI];exact Q2h (m:=S.P.a.mem) (bs:=Q0c L) (a:=p.at_+8*k) (by rw[bytes8_len];omega)
 have Bw:Q0j m (p.at_+8*k)=L:=by rw[EI];exact Z0C (by omega) hL64
 have hr:∀x,x<16->x≠k->Kept S.P.a.mem m (p.at_+8*x) 8:=fun x hx Ab=>hk _ _ (by omega)
 have AO:∀a,a∈S.P.usedOf 7->Kept S.P.a.mem m a 256:=fun a ha=>Q2C ok hT (b:=p.at_+8*k) (n:=8) (by omega) (by omega) hk ha (by omega)
 have Bg:((tb i).setL k L).In m p.at_:=by
  rcases Az with ⟨c1,c2,c3,c4⟩|⟨c1,c2⟩
  ·refine(t.tin i p hi h1 h2).grow BZ c1 c2 Bw (fun j j1 j2=>?_) hr (fun x hx h0=>AO _ (t.leaf Ao hx h0));rw[AO L c3 j j1 j2];exact c4 j j1 j2
  ·subst c1;exact(t.tin i p hi h1 h2).drop BZ c2 Bw hr (fun x hx Ab h0=>AO _ (t.leaf Ao hx h0))
 obtain⟨ok',t'⟩:=t.rootw ok hi h1 h2 Am BZ Ac Ik hk Bg hn;have st':Step S.hl (S.setP (S.P.setA m)).hl (w.alloc (.cells #[.int .u64 (L:Nat)] 83)) w':=CO.stepMem sa m st;exact⟨rfl,_,ok',t',Alt.mem ok own (.inl rfl) hT (by omega) (by omega) Ac hk,st'.from_alloc⟩
end
theorem TblC.alt{S S':CO}{p:Pl}{g:Nat}{w w':World}{own:Int}(h:TblC S p g w)(al:Alt S S' own)(st:Step S.hl S'.hl w w'):TblC S' p g w':=by
 unfold TblC;rw[al.same.p];exact AsideV.step h st
theorem Q1D(tb:Nat->TB)(i:Nat)(a b:TB):updT (updT tb i a) i b=updT tb i b:=by
 funext j;unfold updT;split <;> rfl
theorem Z5t{m:List Nat}{a n j:Nat}(h:a+n<=m.length)(h1:a<=j)(h2:j<a+n):(put_ m a (List.replicate n 0))[j]?=some 0:=by
 unfold put_;rw[J0j,J2v (by rw[J1C];omega),J1C,J2G (by omega),J2u (by rw[Z9C];omega),J1k,if_pos (by omega)]
def Put1(S:CO)(fr:List Nat)(N K:Nat)(tb:Nat->TB)(own:Int)(xl xn:List Nat)(i s:Nat)(o:Option Ent)(w w':World):Prop:=
 ∃(S':CO) (t':TB),S'.Ok fr N K/\TPX S' (updT tb i t') own xl xn/\(∀x,t'.en x=if x=s then o else(tb i).en x)/\((tb i).Full->t'.Full)/\(∀k,(tb i).lf k=0∨t'.lf k=0∨t'.lf k=(tb i).lf k)/\Alt S S' own/\Step S.hl S'.hl w w'
def SetR(S:CO)(fr:List Nat)(N K:Nat)(tb:Nat->TB)(own:Int)(xl xn:List Nat)(i s:Nat)(o:Option Ent)(w:World)(r:Ending)(w':World):Prop:=
 (r=.returned (.int .i64 0)/\Put1 S fr N K tb own xl xn i s o w w') ∨
 ((tb i).lf (s/16)=0/\Step S.hl S.hl w w'/\((NoRoom S.P 7/\r=.returned (.int .i64 4))∨((∃e,find S.P.q.E own=some e/\e.q.limit-(e.q.charged+e.q.given)<256)/\r=.returned (.int .i64 5))))
theorem Q9s{t:TB}{s:Nat}{e:Ent}{t':TB}(hs:s<256)(hl:∀k,k<16->t'.lf k≠0->t.lf k≠0∨k=s/16)(he:∀x,t'.en x=if x=s then some e else t.en x)(h:t.Full):t'.Full:=by
 intro k hk h0;by_cases CQ:k=s/16
 ·exact⟨s,hs,CQ.symm,by rw[he,if_pos rfl];simp⟩
 ·obtain⟨x,hx,e1,e2⟩:=h k hk ((hl k hk h0).resolve_right CQ);refine⟨x,hx,e1,?_⟩;rw[he];split
  ·simp
  ·exact e2
section
variable {S:CO} {fr:List Nat} {N K:Nat} {tb:Nat->TB} {own:Int} {xl xn xn':List Nat}
theorem Q5b(ok:S.Ok fr N K)(t:TPX S tb own xl xn){i s:Nat}{p:Pl}(hi:S.l[i]?=some p)(h1:p.st=1)(h2:p.kind=2)(Am:(p.fac:Int)=own)(hs:s<256)(hl:(tb i).lf (s/16)≠0){e:Ent}(hn:(xn'++((tb i).setE s (some e)).nds).Perm (xn++(tb i).nds))
  (hA:Q0q (some e)<18446744073709551616) (hB:Q0L (some e)<18446744073709551616) {w:World} (A7:Sep w S.hl) :
  Calls prog 57 #[.pointer (some ⟨S.P.a.a,0,none⟩),.int .i64 (((tb i).lf (s/16)+16*(s%16):Nat):Int),.slice (some ⟨w.heap.size,0,none⟩) 2 2] (w.alloc (.cells #[.int .u64 (Q0q (some e):Nat),.int .u64 (Q0L (some e):Nat)] 83)) fun r w' =>
   r=.returned (.int .i64 0)/\Put1 S fr N K tb own xl xn' i s (some e) w w':=by
 refine(Q3o ok t hi h1 h2 Am hs hl hn hA hB A7).mono ?_;rintro r w'⟨rfl,S',ok',t',al,st⟩;exact⟨rfl,S',_,ok',t',fun _=>rfl,Q9s hs (fun k _ h=>.inl h) fun _=>rfl,fun _=>.inr (.inr rfl),al,st⟩
theorem Z5u(ok:S.Ok fr N K)(t:TPX S tb own xl xn){i s:Nat}{p:Pl}(hi:S.l[i]?=some p)(h1:p.st=1)(h2:p.kind=2)(Am:(p.fac:Int)=own)(hs:s<256)(hl:(tb i).lf (s/16)≠0){e:Ent}(hn:(xn'++((tb i).setE s (some e)).nds).Perm (xn++(tb i).nds))
  (hA:Q0q (some e)<18446744073709551616) (hB:Q0L (some e)<18446744073709551616) {w:World} {g:Nat} (A7:Sep w S.hl) (hg:TblC S p g w) :
  Calls prog 103 #[.pointer (some ⟨g,0,none⟩),.int .i64 s,.int .u64 (Q0q (some e):Nat),.int .u64 (Q0L (some e):Nat)] w (SetR S fr N K tb own xl xn' i s (some e) w):=by
 have Ao:=Q1B ok.inv.len hi;have T:=t.tt ok hi h1 h2 A7 hg;have hL:=t.leaf Ao (by omega:s/16<16) hl;have hm:=Q0l ok.inv.mem.pool hL;have hb:=Q0f ok.inv.mem.pool;have c0:=hg.c0;have km:=Q4z w (s:Int);rw[decide_eq_true (show 0<=(s:Int)/\(s:Int)<256 from⟨by omega,by omega⟩)] at km;have kl:=Q3K T s hs;have ka:=Q0y (CO.sP A7);have ks:=Q2D w ((tb i).lf (s/16)) s (by omega) hs;have HX:Hid (Calls prog 57 #[.pointer (some ⟨S.P.a.a,0,none⟩),.int .i64 (((tb i).lf (s/16)+16*(s%16):Nat):Int),.slice (some ⟨w.heap.size,0,none⟩) 2 2] (w.alloc (.cells #[.int .u64 (Q0q (some e):Nat),.int .u64 (Q0L (some e):Nat)] 83)) fun r w' =>
   r=.returned (.int .i64 0)/\SetR S fr N K tb own xl xn' i s (some e) w (.returned (.int .i64 0)) w'):=by
  refine(Q5b ok t hi h1 h2 Am hs hl hn hA hB A7).mono ?_;rintro r w'⟨rfl,h⟩;exact⟨rfl,.inl ⟨rfl,h⟩⟩
 have Ct:Q0q (some e)≠0:=fun h=>by simpa using codeA_zero.1 h
 have Ab:(((Q0q (some e):Nat):Int)==0)=false:=by simpa using Ct
 have BK:((((tb i).lf (s/16):Nat):Int)==0)=false:=by simpa using hl
 generalize SetR S fr N K tb own xl xn' i s (some e) w=Q at *
 unfold ptr at *
 generalize Q0q (some e)=x at *
 generalize Q0L (some e)=y at *
 generalize ((tb i).lf (s/16)+16*(s%16):Nat)=u at *
 generalize (tb i).lf (s/16)=L at *
 clear ok t hi T hL hm hn A7 hg Am h1 h2 hl Ct;go_enter func103,ntmps103;go_wp2_with fail;refine km.mono ?_;rintro e w'⟨rfl,rfl⟩;go_wp2_with fail;refine kl.mono ?_;rintro e w'⟨rfl,rfl⟩;go_wp2_with fail;refine ka.mono ?_;rintro e w'⟨rfl,rfl⟩;go_wp2_with fail;refine ks.mono ?_;rintro e w'⟨rfl,rfl⟩;go_wp2_with fail;refine HX.out.mono ?_;rintro e w'⟨rfl,hy⟩;have HY:=Q0a hy;clear hy HX;go_wp2_with fail
 (try go_ret2);exact HY.out
theorem Z5v(ok:S.Ok fr N K)(t:TPX S tb own xl xn){i s:Nat}{p:Pl}(hi:S.l[i]?=some p)(h1:p.st=1)(h2:p.kind=2)(Am:(p.fac:Int)=own)(hs:s<256)(hl:(tb i).lf (s/16)=0){ac:En Fa}(F7:find S.P.q.E own=some ac){e:Ent}(hn:(xn'++((tb i).setE s (some e)).nds).Perm (xn++(tb i).nds))
  (hA:Q0q (some e)<18446744073709551616) (hB:Q0L (some e)<18446744073709551616) {w:World} {g:Nat} (A7:Sep w S.hl) (hg:TblC S p g w) :
  Calls prog 103 #[.pointer (some ⟨g,0,none⟩),.int .i64 s,.int .u64 (Q0q (some e):Nat),.int .u64 (Q0L (some e):Nat)] w (SetR S fr N K tb own xl xn' i s (some e) w):=by
 have Ao:=Q1B ok.inv.len hi;have T:=t.tt ok hi h1 h2 A7 hg;have km:=Q4z w (s:Int);rw[decide_eq_true (show 0<=(s:Int)/\(s:Int)<256 from⟨by omega,by omega⟩)] at km;have kl:=Q3K T s hs;rw[hl] at kl;have c0:=hg.c0;have c1:=hg.c1;have d0:w.drew.cell? ⟨g,0,none⟩=some (.pointer (some ⟨S.P.p,0,none⟩)):=c0;have d1:w.drew.cell? ⟨g,1,none⟩=some (.int .i64 (p.fac:Int)):=c1;have Nu:Q0O 7=256:=costs_67.2;have HG:Hid (Calls prog 15 #[.pointer (some ⟨S.P.p,0,none⟩),.int .i64 (p.fac:Int),.int .i64 7] w.drew fun r w1 =>
   (w1.cell? ⟨g,0,none⟩=some (.pointer (some ⟨S.P.p,0,none⟩))/\w1.cell? ⟨g,1,none⟩=some (.int .i64 (p.fac:Int))) /\
   ∃a er:Int,r=.returned (.tuple #[.int .i64 a,.int .i64 er])/\(((er=4∨er=5)/\SetR S fr N K tb own xl xn' i s (some e) w (.returned (.int .i64 er)) w1) ∨
    (∃L:Nat,a=(L:Int)/\er=0/\(0<L/\L<=1073741824) /\
    Calls prog 50 #[.pointer (some ⟨S.P.p,0,none⟩)] w1 (fun r w'=>r=.returned (.pointer (some ⟨S.P.a.a,0,none⟩))/\w1=w') /\
    Calls prog 179 #[.pointer (some ⟨g,0,none⟩),.int .i64 s] w1 (fun r w'=>r=.returned (.int .i64 ((p.at_+8*(s/16):Nat):Int))/\w1=w') /\
    Calls prog 57 #[.pointer (some ⟨S.P.a.a,0,none⟩),.int .i64 ((p.at_+8*(s/16):Nat):Int),.slice (some ⟨w1.heap.size,0,none⟩) 1 1] (w1.alloc (.cells #[.int .u64 (L:Nat)] 83)) (fun r w2=>r=.returned (.int .i64 0)/\w2.cell? ⟨g,0,none⟩=some (.pointer (some ⟨S.P.p,0,none⟩)) /\
     Calls prog 50 #[.pointer (some ⟨S.P.p,0,none⟩)] w2 (fun r w'=>r=.returned (.pointer (some ⟨S.P.a.a,0,none⟩))/\w2=w') /\
     Calls prog 177 #[.int .i64 L,.int .i64 s] w2 (fun r w'=>r=.returned (.int .i64 ((L+16*(s%16):Nat):Int))/\w2=w') /\
     Calls prog 57 #[.pointer (some ⟨S.P.a.a,0,none⟩),.int .i64 ((L+16*(s%16):Nat):Int),.slice (some ⟨w2.heap.size,0,none⟩) 2 2] (w2.alloc (.cells #[.int .u64 (Q0q (some e):Nat),.int .u64 (Q0L (some e):Nat)] 83)) (fun r w3=>r=.returned (.int .i64 0)/\SetR S fr N K tb own xl xn' i s (some e) w (.returned (.int .i64 0)) w3))))):=by
  rw[Am];refine(Q4w (CO.sP A7.drew) ok.inv.mem.pool own 7).mono ?_;rintro r w1 Ja;have cellsOf:∀{H':HL},Step S.hl H' w w1->w1.cell? ⟨g,0,none⟩=some (.pointer (some ⟨S.P.p,0,none⟩))/\w1.cell? ⟨g,1,none⟩=some (.int .i64 own):=fun {H'} st=>by
   have hx:=AsideV.step hg st;obtain⟨g0,e0,_,_,z0⟩:=hx 0 _ rfl;obtain⟨g1,e1,_,_,z1⟩:=hx 1 _ rfl;cases e0;cases e1;rw[<- Am];exact⟨z0,z1⟩
  rcases Ja with ⟨h0,_⟩|⟨_,h0,_⟩|⟨_,AI,rfl,st⟩|⟨n,ac',Rf,Qu,Qz,PO,M2,hr⟩
  ·rw[Nu] at h0;omega
  ·rw[F7] at h0;cases h0
  ·have st':Step S.hl S.hl w w1:=(CO.stepP A7.drew S.P rfl st).from_drew;refine⟨cellsOf st',0,5,rfl,.inl ⟨.inr rfl,.inr ⟨hl,st',.inr ⟨?_,rfl⟩⟩⟩⟩;obtain⟨x,q1,q2⟩:=AI;rw[Nu] at q2;exact⟨x,q1,q2⟩
  ·obtain rfl:n=7:=by omega
   rcases hr with ⟨L,P',rfl,g7,st⟩|⟨Aq,rfl,st⟩
   ·have AX:∃p∈S.l,p.st=1/\(p.fac:Int)=own:=⟨p,J1x hi,h1,Am⟩
    obtain⟨ok1,t1⟩:=TPX.got ok t (.inr rfl) g7 AX;have al1:=Alt.got ok g7;rw[if_pos rfl,if_neg (by decide)] at t1;have AC:P'.p=S.P.p:=g7.p;have st1:Step S.hl (S.paid P' own ((Q0d 7:Nat):Int)).hl w w1:=(CO.stepPaid A7.drew P' own _ AC st).from_drew;have NW:L∈P'.usedOf 7:=by
     obtain⟨A,B,_,e2⟩:=g7.used;rw[e2];simp
    have NU:=Q0l ok1.inv.mem.pool NW;have Lc:=Q0f ok1.inv.mem.pool;rw[Q2f] at NU;have PB:L+256<=P'.a.mem.length:=NU.1;have L7:P'.a.mem.length<=1073741824:=Lc;have BN:=hg.alt al1 st1;have T1:=t1.tt ok1 (show(S.paid P' own ((Q0d 7:Nat):Int)).l[i]?=some p from hi) h1 h2 st1.sep BN;have Pa:=Q0y (CO.sP st1.sep);have OK:(S.paid P' own ((Q0d 7:Nat):Int)).P.a.a=S.P.a.a:=al1.same.aa;rw[OK,show(S.paid P' own ((Q0d 7:Nat):Int)).P.p=S.P.p from AC] at Pa;have hz:∀j,L<=j->j<L+256->P'.a.mem[j]?=some 0:=fun j j1 j2=>by
     have De:=(g7.gotM ok.inv.mem.pool).room.1;rw[g7.mem];exact Z5t De j1 j2
    refine⟨cellsOf st1,(L:Int),0,rfl,.inr ⟨L,rfl,rfl,⟨by omega,by omega⟩,Pa,Q5a T1 s hs,?_⟩⟩;have BS:(xl++((tb i).setL (s/16) L).lvs).Perm ((L::xl)++(tb i).lvs):=by
     refine(J2a xl (TB.lvs_new (by omega) hl (by omega:L≠0))).trans ?_;exact J2K
    have kr:=Q5R ok1 t1 (show(S.paid P' own ((Q0d 7:Nat):Int)).l[i]?=some p from hi) h1 h2 Am (by omega:s/16<16) (by omega:L<18446744073709551616) BS (.inl ⟨hl,by omega,NW,hz⟩) st1.sep;rw[OK] at kr;refine kr.mono ?_;rintro r w2⟨rfl,S2,ok2,t2,al2,st2⟩;have al12:=al1.trans al2;have st12:=st1.trans st2;have BA:=hg.alt al12 st12;have c2:=BA.c0;rw[al12.same.p] at c2;have Fx:=Q0y (CO.sP st2.sep);rw[al12.same.aa,al12.same.p] at Fx;have E7:S2.l[i]?=some p:=by rw[al12.l];exact hi
    have Kg:(updT tb i ((tb i).setL (s/16) L) i).lf (s/16)=L:=by
     rw[updT_same];show(if s/16=s/16 then L else _)=L;rw[if_pos rfl]
    have ON:(xn'++((updT tb i ((tb i).setL (s/16) L) i).setE s (some e)).nds).Perm (xn++(updT tb i ((tb i).setL (s/16) L) i).nds):=by
     rw[updT_same];exact hn
    have O7:=Q3o ok2 t2 E7 h1 h2 Am hs (by rw[Kg];omega) ON hA hB st2.sep;rw[Kg,al12.same.aa] at O7;refine⟨rfl,c2,Fx,Q2D w2 L s (by omega) hs,O7.mono ?_⟩;rintro r w3⟨rfl,S3,ok3,t3,al3,st3⟩;rw[updT_same,Q1D] at t3;refine⟨rfl,.inl ⟨rfl,S3,_,ok3,t3,fun _=>rfl,Q9s hs (fun k hk h0=>?_) fun _=>rfl,fun k=>?_,al12.trans al3,st12.trans st3⟩⟩
    ·by_cases CQ:k=s/16
     ·exact .inr CQ
     ·refine .inl ?_;have Dd:(if k=s/16 then L else(tb i).lf k)≠0:=h0
      rwa [if_neg CQ] at Dd
    ·by_cases CQ:k=s/16
     ·exact .inl (by rw[CQ];exact hl)
     ·refine .inr (.inr ?_);show(if k=s/16 then L else(tb i).lf k)=_;rw[if_neg CQ]
   ·have st':Step S.hl S.hl w w1:=(CO.stepP A7.drew S.P rfl st).from_drew;exact⟨cellsOf st',0,4,rfl,.inl ⟨.inl rfl,.inr ⟨hl,st',.inl ⟨Aq,rfl⟩⟩⟩⟩
 have Ct:Q0q (some e)≠0:=fun h=>by simpa using codeA_zero.1 h
 have Ab:(((Q0q (some e):Nat):Int)==0)=false:=by simpa using Ct
 generalize SetR S fr N K tb own xl xn' i s (some e) w=Q at *
 unfold ptr at *
 generalize Q0q (some e)=x at *
 generalize Q0L (some e)=y at *
 generalize (p.at_+8*(s/16):Nat)=u at *
 generalize (p.fac:Int)=fa at *
 clear ok t hi T hn A7 hg Am h1 h2 hl Ct F7;go_enter func103,ntmps103;go_wp2_with fail;refine km.mono ?_;rintro e w'⟨rfl,rfl⟩;go_wp2_with fail;refine kl.mono ?_;rintro e w'⟨rfl,rfl⟩;go_wp2_with fail
 go_region_held3 (fun w'=>w'.cell? ⟨g,0,none⟩=some (.pointer (some ⟨S.P.p,0,none⟩))/\w'.cell? ⟨g,1,none⟩=some (.int .i64 fa)) (first|exact⟨c0,c1⟩|exact⟨d0,d1⟩|exact Ak)
  (first|(go_at_call 15;refine HG.out.mono ?_;rintro r w1⟨Ak,a,er,rfl,hy⟩;have HW:=Q0a hy;clear hy HG))
 rcases HW.out with ⟨BW,hy⟩|⟨L,rfl,rfl,hL,hy⟩
 ·have HY:=Q0a hy;clear hy HW;rcases BW with rfl|rfl
  all_goals
   go_wp2_with fail
   (try go_ret2);exact HY.out
 ·obtain⟨ka,OU,ks⟩:=hy;have HS:=Q0a ks;have KB:=Ak.1;have Rn:=hL.2;clear ks HW;go_wp2_with fail;refine ka.mono ?_;rintro e w'⟨rfl,rfl⟩;go_wp2_with fail;refine OU.mono ?_;rintro e w'⟨rfl,rfl⟩;go_wp2_with fail;refine HS.out.mono ?_;rintro e w2⟨rfl,c2,Fx,PV,hz⟩;have HZ:=Q0a hz;clear hz HS ka OU;go_wp2_with fail;refine Fx.mono ?_;rintro e w'⟨rfl,rfl⟩;go_wp2_with fail;refine PV.mono ?_;rintro e w'⟨rfl,rfl⟩;go_wp2_with fail;refine HZ.out.mono ?_;rintro e w3⟨rfl,hq⟩;have HQ:=Q0a hq;clear hq HZ;go_wp2_with fail
  (try go_ret2);exact HQ.out
end
end Go.Proofs.YtfidemmgofcnmaaGreatDoor
