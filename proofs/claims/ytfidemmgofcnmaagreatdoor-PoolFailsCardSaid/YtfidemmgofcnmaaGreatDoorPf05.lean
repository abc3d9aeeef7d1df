/- PoolFails returns true at every input. No condition. Part of its proof. -/
import Derived.Test.YtfidemmgofcnmaaGreatDoorPf04
import Derived.Deep.RegionWith
import Derived.Deep.RegionLaw
set_option maxHeartbeats 4000000
set_option maxRecDepth 100000
set_option linter.unusedVariables false
namespace Go.Proofs.YtfidemmgofcnmaaGreatDoor
open Go.RowKit Go.Proofs.Tryz
def Q7u(c:CA)(d:BD)(p:Nat)(w:World)(r:Ending)(w':World):Prop:=r=.returned (.tuple #[.int .i64 ((addr c.size p 0:Nat):Int),.int .i64 0]) /\
 ∃(d':BD) (m:BM) (rv':RV),d'.b=d.b/\d'.top=d.top/\d'.ps=d.ps++[p]/\d'.At/\m.bits=(List.replicate (960/c.size) false).set 0 true/\(c.insert rv' (m,p)).Ok/\Step (c.hl++d.hl) ((c.insert rv' (m,p)).hl++d'.hl) w w'
theorem Q7v{w w5:World}{c:CA}{d d':BD}{m:BM}(p g:Nat)(ok:c.Ok)(hn:∀x∈c.pg,x.2≠p)(hp:p<1048576)(Bp:c.pg.length<1048576)(hm:m.bits=(List.replicate (960/c.size) false).set 0 true)(b1:d'.b=d.b)(b2:d'.top=d.top)(b3:d'.ps=d.ps++[p])(b4:d'.At)
  (Ah:Step (c.hl++d.hl) (c.hl++(m.hl++d'.hl)) w w5) (hg:g<w5.heap.size) (hgk:g∉keys (c.hl++(m.hl++d'.hl))) :
  Calls prog 132 #[lvOf c.rv c.pg.length,.int .i64 (Q0f c.pg p),.slice (some ⟨w5.heap.size,0,none⟩) 1 1] (w5.drew.alloc (.cells #[ptr m.b,.int .i64 ((1024*p:Nat):Int)] 236)) fun r w6=>∃(g6 AI:Nat) (v6:Value),v6=.slice (some ⟨g6,0,none⟩) (c.pg.length+1) AI/\r=.returned v6 /\
   w6.heap[g]?=w5.heap[g]?/\w6.cell? ⟨c.c,2,none⟩=some (lvOf c.rv c.pg.length)/\w6.frozen? ⟨c.c,2,none⟩=false /\
   Calls prog 128 #[.pointer (some ⟨c.c,0,none⟩),.agg #[ptr m.b,.int .i64 ((1024*p:Nat):Int)],.int .i64 0] (w6.setCell ⟨c.c,2,none⟩ v6) fun r w7=>r=.returned (.int .i64 ((addr c.size p 0:Nat):Int))/\Q7u c d p w (.returned (.tuple #[.int .i64 ((addr c.size p 0:Nat):Int),.int .i64 0])) w7:=by
 have s5:=Ah.sep;have s6:=(s5.drew.alloc (.cells #[ptr m.b,.int .i64 ((1024*p:Nat):Int)] 236))
 have Ej:(Q0b c.pg).length=c.pg.length*2:=Q2q _;have ox:∀v∈Q0b c.pg,v.oneCell'=true:=by
  intro v hv;unfold Q0b at hv;obtain⟨y,_,hy⟩:=Z0o.1 hv;simp at hy;rcases hy with rfl|rfl <;> rfl
 have e0:c.hl++(m.hl++d'.hl)=[(c.c,isC 233 [ptr c.bb,.int .i64 c.size,lvOf c.rv c.pg.length])]++rowH c.rv 236 2 (Q0b c.pg)++(pgH c.pg++(m.hl++d'.hl)):=by unfold CA.hl;simp
 have s6':=s6;rw[e0] at s6';have hv:Cells (w5.drew.alloc (.cells #[ptr m.b,.int .i64 ((1024*p:Nat):Int)] 236)) w5.heap.size 236 [ptr m.b,.int .i64 ((1024*p:Nat):Int)]:=Cells.new w5.drew 236 [ptr m.b,.int .i64 ((1024*p:Nat):Int)];have Dr:w5.heap.size∉keys (c.hl++(m.hl++d'.hl)):=fun hm=>by have:=s5.lt hm;omega
 refine(Q8E s6' ok.rv Ej (Q2G c.pg p) (by omega) hv (by rw[<- e0];exact Dr) ox rfl rfl).mono ?_;rintro r w6⟨rv',rfl,Ed,CP⟩;have A5:w6.heap[g]?=w5.heap[g]?:=by
  have h1:=CP.chg.block g (by simp;omega) (by rw[<- e0];exact hgk);rw[h1];exact heap_alloc_old w5.drew _ hg
 have AM:=(CP.sep).cells (b:=c.c) (T:=233) (cs:=[ptr c.bb,.int .i64 c.size,lvOf c.rv c.pg.length]) (by simp);have FT:Step (c.hl++(m.hl++d'.hl)) ((c.insert rv' (m,p)).hl++d'.hl) w5 (w6.setCell ⟨c.c,2,none⟩ (lvOf rv' (c.pg.length+1))):=
  (CA.insStep (c:=c) (K:=d'.hl) (m,p) rv' s6 CP).from_alloc.from_drew
 have okN:=CA.ok_ins ok rv' (m,p) hn Ed Bp hp (by rw[hm];simp);have A8:=Ah.trans FT;obtain⟨g6,AI,e6⟩:∃g6 AI:Nat,rv'=some (g6,AI):=by
  cases rv' with
  | none=>have:c.pg.length+1=0:=Ed;omega
  | some p=>exact⟨p.1,p.2,rfl⟩
 refine⟨g6,AI,_,by rw[e6];rfl,rfl,A5,AM.cell 2 _ rfl,AM.free 2,?_⟩;have B7:=Q1P A8.sep.left okN m.b p 0 hp (by omega);refine B7.mono ?_;rintro r w7⟨rfl,DW⟩;exact⟨rfl,rfl,d',m,rv',b1,b2,b3,b4,hm,okN,A8.trans (A8.sep.grown DW)⟩
theorem Q4V(a b:Nat)(ha:a<2 ^ 63)(hb:b<2 ^ 63):bits BinOp.xor IntKind.i64 (a:Int) (b:Int)=((a ^^^ b:Nat):Int):=by
 have h:(a ^^^ b)<2 ^ 63:=Z0W ha hb;have e:((BitVec.ofInt 64 (a:Int)) ^^^ (BitVec.ofInt 64 (b:Int))).toNat=a ^^^ b:=by
  rw[BitVec.ofInt_natCast,BitVec.ofInt_natCast,BitVec.toNat_xor,BitVec.toNat_ofNat,BitVec.toNat_ofNat,Z1a (by omega),Z1a (by omega)]
 unfold bits;show IntKind.i64.wrap (((BitVec.ofInt 64 (a:Int)) ^^^ (BitVec.ofInt 64 (b:Int))).toNat:Int)=_;rw[e,IntKind.wrap_i64];omega
theorem Q8O(i:Nat):i ^^^ 1=sib i:=by
 have h:(i ^^^ 1)/2=i/2:=by
  have:=Nat.xor_div_two_pow (a:=i) (b:=1) (n:=1)
  simpa using this
 have h2:(i ^^^ 1)%2=(i+1)%2:=by
  have:=Z0Y i 1 0;rw[Z1c,Z1c,Z1c] at this;have h3:i%2=0∨i%2=1:=by omega
  have h4:(i ^^^ 1)%2=0∨(i ^^^ 1)%2=1:=by omega
  rcases h3 with h3|h3 <;> rcases h4 with h4|h4 <;> simp[h3,h4] at this <;> omega
 unfold sib;split <;> omega
theorem Q8P(u:Nat->Bool)(top p:Nat):∃k,k<=top/\(k<top->clr u k (sib (p/2 ^ k))=false)/\∀j,j<k->clr u j (sib (p/2 ^ j))=true:=by
 rcases Q9q (fun k=>decide (k=top)||!clr u k (sib (p/2 ^ k))) (top+1) with h|⟨k,h1,h2,h3⟩
 ·have:=h top (by omega);simp at this
 ·refine⟨k,by omega,fun hk=>?_,fun j hj=>?_⟩
  ·simp only[Z2D,decide_eq_true_eq,Z2A] at h2;rcases h2 with h2|h2
   ·omega
   ·exact h2
  ·have:=h3 j hj;simp only[Bool.or_eq_false_iff,Bool.not_eq_false'] at this;exact this.2
theorem Q7w(u:Nat->Bool)(p k:Nat)(hs:∀j,j<k->clr u j (sib (p/2 ^ j))=true):clr (setU u p false) k (p/2 ^ k)=true:=by
 induction k with
 | zero=>rw[Nat.pow_zero,Nat.div_one,Q7o];simp[setU]
 | succ k ih =>
  obtain⟨s1,s2⟩:=Q1v (p/2 ^ k);have h1:=ih (fun j hj=>hs j (by omega));have h2:=hs k (by omega);rw[<- Q1u u p k (sib (p/2 ^ k)) (fun e=>s2 e.symm)] at h2;rw[div_succ,clr_half,Z0m];have:(p/2 ^ k=2*(p/2 ^ k/2)/\sib (p/2 ^ k)=2*(p/2 ^ k/2)+1)∨(sib (p/2 ^ k)=2*(p/2 ^ k/2)/\p/2 ^ k=2*(p/2 ^ k/2)+1):=by omega
  rcases this with ⟨e1,e2⟩|⟨e1,e2⟩
  ·exact⟨by rw[e1] at h1;exact h1,by rw[e2] at h2;exact h2⟩
  ·exact⟨by rw[e1] at h2;exact h2,by rw[e2] at h1;exact h1⟩
theorem Q1m{u:Nat->Bool}{p:Nat}(hu:u p=true)(k:Nat):clr u k (p/2 ^ k)=false:=by
 cases h:clr u k (p/2 ^ k) with
 | false=>rfl
 | true=>rw[clr_iff] at h;rw[h p rfl] at hu;cases hu
theorem Q4r{u:Nat->Bool}{top p k:Nat}(hu:u p=true)(hk:k<top):fre u top k (sib (p/2 ^ k))=clr u k (sib (p/2 ^ k)):=by
 unfold fre;rw[(Q1v (p/2 ^ k)).1,<- div_succ,Q1m hu];simp
def mrg(G:Nat->Nat->Bool)(p k:Nat):Nat->Nat->Bool:=fun l x=>if l<k then(G l x&&!(x==sib (p/2 ^ l))) else G l x
theorem Q7x(G:Nat->Nat->Bool)(p:Nat):mrg G p 0=G:=by funext l x;simp[mrg]
theorem Q7y(G:Nat->Nat->Bool)(p k:Nat):upG (mrg G p k) k (sib (p/2 ^ k)) false=mrg G p (k+1):=by
 funext l x;unfold upG mrg;by_cases h:l=k
 ·subst h;by_cases hx:x=sib (p/2 ^ l)
  ·simp[hx]
  ·have e:(x==sib (p/2 ^ l))=false:=by simpa using hx
   simp[hx,e]
 ·have e:(l<k+1)=(l<k):=by apply propext;omega
  simp[h,e]
theorem Q8Q(u:Nat->Bool)(top p k:Nat)(hk:k<=top)(hu:u p=true)(hn:k<top->clr u k (sib (p/2 ^ k))=false)(hs:∀j,j<k->clr u j (sib (p/2 ^ j))=true)(l x:Nat)(hl:l<=top) :
  upG (mrg (fre u top) p k) k (p/2 ^ k) true l x=fre (setU u p false) top l x:=by
 rw[Q7p u top p k hk hu (Q7w u p k hs) hn l x hl];unfold upG mrg;by_cases h:l=k
 ·subst h;by_cases hx:x=p/2 ^ l
  ·simp[hx]
  ·have e:(x==p/2 ^ l)=false:=by simpa using hx
   simp[hx,e]
 ·simp[h]
theorem Q3J{top p k:Nat}(hp:p<2 ^ top)(hk:k<=top):p/2 ^ k<2 ^ (top-k):=by
 rw[Nat.div_lt_iff_lt_mul (Z0U k),<- Z1f,show top-k+k=top from by omega];exact hp
theorem Q8j{n i:Nat}(hi:i<2 ^ (n+1)):sib i<2 ^ (n+1):=by
 rw[Z0N] at *
 unfold sib;split <;> omega
def Q9w(d:BD)(p:Nat)(w:World)(r:Ending)(w':World):Prop:=r=.returned (.int .i64 0) /\
 ∃d':BD,d'.b=d.b/\d'.top=d.top/\d'.ps=d.ps.erase p/\d'.At/\Step d.hl d'.hl w w'
theorem Q7z(w:World):(zeroValue 3).run prog w=.ok (.int .i64 0) w:=by kernel_rfl
theorem Q7A{w:World}{d:BD}(h:Sep w d.hl)(ha:d.At)(p:Nat)(hp:p∈d.ps) :
  Calls prog 145 #[.pointer (some ⟨d.b,0,none⟩),.int .i64 (1024*(p:Int))] w (Q9w d p w):=by
 have hx:((1024*p:Nat):Int)=1024*(p:Int):=by omega
 have hu:uOf d.ps p=true:=by simpa[uOf] using hp
 obtain⟨k1,Di,hn,hs⟩:=Q8P (uOf d.ps) d.top p;have Cd:=ha.lt p hp;have ht:=ha.is.top;have BW:=Q0K (P:=prog) (BD.map h) ((1024*p:Nat):Int) true (.int .i64 0) underlying156 underlying3 (Q7z w);rw[Q7r,if_pos hp,hx] at BW;simp only[if_true,Option.getD_some,Option.isSome_some] at BW;have Df:=BD.map h;have J0:=BD.cm h (by rw[ha.is.len];omega);have Ek:=Q0a (show ∀w2,Q0n w2 d.mb (del (upk d.ps) (1024*(p:Int)))->w.grownBy w2 (some d.mb)->({d with ps:=d.ps.erase p}:BD).To {d with ps:=d.ps.erase p} w2 w2/\Step d.hl ({d with ps:=d.ps.erase p}:BD).hl w w2 from fun w2 Bs Bl=>by
  rw[<- hx,Q8K] at Bs;have:=BD.putMap h _ Bs Bl;exact⟨BD.To.refl this.sep,this⟩)
 have FB:Hid (({d with ps:=d.ps.erase p}:BD).Is (mrg (fre (uOf d.ps) d.top) p 0)):=by
  show BD.Is _ _;rw[Q7x];exact⟨ha.is.len,ha.is.top,ha.is.bits⟩
 have Da:=Q0a (show ∀w2 wr d1,({d with ps:=d.ps.erase p}:BD).To d1 w2 wr->wr.cell? ⟨d.b,0,none⟩=some (.int .i64 d.top) from fun w2 wr d1 Ag=>by
  have:=BD.c0 Ag.step.sep;rw[Ag.b,Ag.top] at this;exact this)
 have IF:=Q0a (show ∀k w2 wr d1,k<k1->({d with ps:=d.ps.erase p}:BD).To d1 w2 wr->d1.Is (mrg (fre (uOf d.ps) d.top) p k)->∃b,wr.cell? ⟨d.b,1+k,none⟩=some (.pointer (some ⟨b,0,none⟩)) /\
   Calls prog 127 #[.pointer (some ⟨b,0,none⟩),.bool false,.slice (some ⟨wr.heap.size,0,none⟩) 1 1] (wr.alloc (.cells #[.int .i64 ((sib (p/2 ^ k):Nat):Int)] 3)) fun r w'=>r=.returned (.int .i64 1)/\∃d2,({d with ps:=d.ps.erase p}:BD).To d2 w2 w'/\d2.Is (mrg (fre (uOf d.ps) d.top) p (k+1)) from fun k w2 wr d1 hk Ag A7=>by
  have B4:k<d.top:=by omega
  have e0:d.top-k=(d.top-k-1)+1:=by omega
  have Ae:sib (p/2 ^ k)<2 ^ (d.top-k):=by
   have:=Q3J Cd (show k<=d.top by omega);rw[e0] at this ⊢;exact Q8j this
  have Ao:mrg (fre (uOf d.ps) d.top) p k k (sib (p/2 ^ k))≠false:=by
   unfold mrg;rw[if_neg (by omega),Q4r hu B4,hs k hk];decide
  have et:d1.top=d.top:=Ag.top;obtain⟨b,h3,h4⟩:=Q3c Ag.step.sep A7 k (sib (p/2 ^ k)) false (by omega) (by rw[et];exact Ae) Ao;rw[Ag.b] at h3;refine⟨b,h3,h4.mono ?_⟩;rintro r w'⟨rfl,d2,AE,Ax⟩;rw[Q7y] at Ax;exact⟨rfl,d2,Ag.trans AE,Ax⟩)
 have Ef:=Q0a (show ∀w2 wr d1,k1<d.top->({d with ps:=d.ps.erase p}:BD).To d1 w2 wr->d1.Is (mrg (fre (uOf d.ps) d.top) p k1)->∃b,wr.cell? ⟨d.b,1+k1,none⟩=some (.pointer (some ⟨b,0,none⟩)) /\
   Calls prog 127 #[.pointer (some ⟨b,0,none⟩),.bool false,.slice (some ⟨wr.heap.size,0,none⟩) 1 1] (wr.alloc (.cells #[.int .i64 ((sib (p/2 ^ k1):Nat):Int)] 3)) fun r w'=>r=.returned (.int .i64 0)/\∃d2,({d with ps:=d.ps.erase p}:BD).To d2 w2 w'/\d2.Is (mrg (fre (uOf d.ps) d.top) p k1) from fun w2 wr d1 B4 Ag A7=>by
  have e0:d.top-k1=(d.top-k1-1)+1:=by omega
  have Ae:sib (p/2 ^ k1)<2 ^ (d.top-k1):=by
   have:=Q3J Cd (show k1<=d.top by omega);rw[e0] at this ⊢;exact Q8j this
  have Ao:mrg (fre (uOf d.ps) d.top) p k1 k1 (sib (p/2 ^ k1))=false:=by
   unfold mrg;rw[if_neg (by omega),Q4r hu B4,hn B4]
  have et:d1.top=d.top:=Ag.top;obtain⟨b,h3,h4⟩:=Q8L Ag.step.sep A7 k1 (sib (p/2 ^ k1)) false (by omega) (by rw[et];exact Ae) Ao;rw[Ag.b] at h3;refine⟨b,h3,h4.mono ?_⟩;rintro r w'⟨rfl,d2,AE,Ax⟩;exact⟨rfl,d2,Ag.trans AE,Ax⟩)
 have AA:=Q0a (show ∀w2 wr d1,Step d.hl ({d with ps:=d.ps.erase p}:BD).hl w w2->({d with ps:=d.ps.erase p}:BD).To d1 w2 wr->d1.Is (mrg (fre (uOf d.ps) d.top) p k1)->∃b,wr.cell? ⟨d.b,1+k1,none⟩=some (.pointer (some ⟨b,0,none⟩)) /\
   Calls prog 127 #[.pointer (some ⟨b,0,none⟩),.bool true,.slice (some ⟨wr.heap.size,0,none⟩) 1 1] (wr.alloc (.cells #[.int .i64 ((p/2 ^ k1:Nat):Int)] 3)) fun r w'=>r=.returned (.int .i64 1)/\Q9w d p w (.returned (.int .i64 0)) w' from fun w2 wr d1 Ah Ag A7=>by
  have Ao:mrg (fre (uOf d.ps) d.top) p k1 k1 (p/2 ^ k1)≠true:=by
   unfold mrg;rw[if_neg (by omega)];unfold fre;rw[Q1m hu];simp
  have et:d1.top=d.top:=Ag.top;obtain⟨b,h3,h4⟩:=Q3c Ag.step.sep A7 k1 (p/2 ^ k1) true (by omega) (by rw[et];exact Q3J Cd Di) Ao;rw[Ag.b] at h3;refine⟨b,h3,h4.mono ?_⟩;rintro r w'⟨rfl,d2,AE,Ax⟩;have BH:=Ag.trans AE;have et2:d2.top=d.top:=BH.top;have ep2:d2.ps=d.ps.erase p:=BH.ps;refine⟨rfl,rfl,d2,BH.b,et2,ep2,⟨⟨Ax.len,Ax.top,?_⟩,?_,?_⟩,Ah.trans BH.step⟩
  ·intro k m hm;rw[Ax.bits k m hm];have B4:k<=d2.top:=by
    have h1:k<d2.bms.length:=(Z0k.1 hm).1;have h2:d2.bms.length=d2.top+1:=Ax.len;omega
   apply Z1J
   intro x _;rw[ep2,Q5P ha.nd,et2];exact Q8Q _ _ _ _ Di hu hn hs k x (by omega)
  ·rw[ep2];exact ha.nd.erase p
  ·intro x hx;rw[ep2] at hx;rw[et2];exact ha.lt x (List.mem_of_mem_erase hx))
 have Fv:p<1048576:=Z0a Cd (by have:=Q0z (k:=0) ht;simpa using this);clear h ha hu hn hs;generalize mrg (fre (uOf d.ps) d.top) p=M at *
 generalize hd0:({d with ps:=d.ps.erase p}:BD)=d0 at *
 clear hd0;generalize d.top=top at *
 go_enter func145,ntmps145;go_wp2_with (refine Q1y _ rfl _ _ 156 3 3 3 rfl underlying156 underlying3 d.mb (upk d.ps) Df _ rfl rfl ?_;intro w2 Bs Bl);obtain⟨Et,Cc⟩:=Ek.out w2 Bs Bl;clear Bs Bl Df J0 BW Ek;go_wp2_with fail
 go_loopw [5,7] (fun kv iv wr=>∃(k:Nat) (d1:BD),kv=.int .i64 k/\iv=.int .i64 ((p/2 ^ k:Nat):Int)/\k<=k1/\d0.To d1 w2 wr/\d1.Is (M k)) (fun kv _ _=>k1-(intOf kv).toNat)
 case atStart=>exact⟨0,d0,rfl,by simp,Z1C _,Et,FB.out⟩
 case round =>
  clear Et;obtain⟨k,d1,rfl,rfl,hk,Ag,A7⟩:=hrel;have Im:=Da.out _ _ _ Ag;have Ir:p/2 ^ k<1048576:=Z0R (Z1j _ _) Fv;have Cx:bits BinOp.xor IntKind.i64 ((p/2 ^ k:Nat):Int) 1=((sib (p/2 ^ k):Nat):Int):=by
   rw[show(1:Int)=((1:Nat):Int) from rfl,Q4V _ _ (by omega) (by omega),Q8O]
  have CT:=Q0a (show((p/2 ^ (k+1):Nat):Int)=((p/2 ^ k:Nat):Int)/2 from by rw[div_succ];omega);by_cases Ae:k<k1
  ·obtain⟨b,hc,An⟩:=IF.out k w2 wr d1 Ae Ag A7;have B4:k<top:=by omega
   clear Ag A7;generalize p/2 ^ k=i at *
   generalize sib i=s at *
   go_wp2_with fail;refine An.mono ?_;rintro e w3⟨rfl,d2,AE,Ax⟩;clear An hc Cx;go_wp2_with fail;go_roundw
   case rel=>exact⟨k+1,d2,by go_num,by rw[CT.out],by omega,AE,Ax⟩
   case measure=>simp[intOf];omega
  ·obtain rfl:k=k1:=by omega
   by_cases B4:k<top
   ·obtain⟨b,hc,An⟩:=Ef.out w2 wr d1 B4 Ag A7;have DJ:=Q0a (show ∀w3 d2,d0.To d2 w2 w3->d2.Is (M k)->_ from fun w3 d2 h1 h2=>AA.out w2 w3 d2 Cc h1 h2);clear Ag A7 CT;generalize p/2 ^ k=i at *
    generalize sib i=s at *
    go_wp2_with fail;refine An.mono ?_;rintro e w3⟨rfl,d2,AE,Ax⟩;obtain⟨b2,Ay,AC⟩:=DJ.out w3 d2 AE Ax;clear An hc Cx AE Ax;go_wp2_with fail;refine AC.mono ?_;rintro e w4⟨rfl,Ap⟩;have Fh:=Q0a Ap;clear Ap AC;go_wp2_with fail;go_ret;exact Fh.out
   ·obtain⟨b2,Ay,AC⟩:=AA.out w2 wr d1 Cc Ag A7;clear Ag A7 CT Cx;have Fe:¬((k:Int)<top):=by omega
    have IB:decide ((k:Int)<top)=false:=by simpa using Fe
    generalize p/2 ^ k=i at *
    go_wp2_with fail;refine AC.mono ?_;rintro e w4⟨rfl,Ap⟩;have Fh:=Q0a Ap;clear Ap AC;go_wp2_with fail;go_ret;exact Fh.out
def Q7B(c:CA)(d:BD)(k p:Nat)(w:World)(r:Ending)(w':World):Prop:=r=.returned (.int .i64 0) /\
 ∃d':BD,d'.b=d.b/\d'.top=d.top/\d'.ps=d.ps.erase p/\d'.At/\Step (c.hl++d.hl) ((c.dropPg k).hl++d'.hl) w w'
theorem Q0h{w w':World}{b:Nat}(h:w'.heap[b]?=w.heap[b]?)(j:Nat):w'.cell? ⟨b,j,none⟩=w.cell? ⟨b,j,none⟩:=by simp only[World.cell?,h]
theorem Q5S{w:World}{c:CA}{d:BD}{w4:World}{rb Aa n:Nat}(k:Nat)(x:BM×Nat)(m':BM)(hx:c.pg[k]?=some x)(hb:m'.b=x.1.b)(Am:c.rv=some (rb,Aa))(hn:c.pg.length=n+1)(ok:c.Ok)(ha:d.At)(hp:x.2∈d.ps)(g:Nat)(hgk:g∉keys d.hl)(hg4:g<w4.heap.size)
  (Ah:Step (c.hl++d.hl) ((c.pageTo k x m').hl++d.hl) w w4) :
  Calls prog 145 #[ptr d.b,.int .i64 ((1024*x.2:Nat):Int)] w4.drew fun r w5=>r=.returned (.int .i64 0)/\(w5.cell? ⟨c.c,0,none⟩=some (ptr c.bb)/\w5.cell? ⟨g,1,none⟩=w4.cell? ⟨g,1,none⟩) /\
   w5.cell? ⟨c.c,2,none⟩=some (.slice (some ⟨rb,0,none⟩) (n+1) Aa) /\
   Calls prog 146 #[.slice (some ⟨rb,0,none⟩) (n+1) Aa,.int .i64 k,.int .i64 ((k:Int)+1)] w5 fun r w6=>r=.returned (.slice (some ⟨rb,0,none⟩) n Aa) /\
    (∃v,w6.cell? ⟨c.c,2,none⟩=some v)/\w6.frozen? ⟨c.c,2,none⟩=false/\Q7B c d k x.2 w (.returned (.int .i64 0)) (w6.setCell ⟨c.c,2,none⟩ (.slice (some ⟨rb,0,none⟩) n Aa)):=by
 have hk:=(Z0k.1 hx).1;have s4:=Ah.sep.drew;have Jo:((1024*x.2:Nat):Int)=1024*(x.2:Int):=by omega
 rw[Jo];refine(Q7A s4.right ha x.2 hp).mono ?_;rintro r w5⟨rfl,d',b1,b2,b3,b4,b5⟩;have f5:Step ((c.pageTo k x m').hl++d.hl) ((c.pageTo k x m').hl++d'.hl) w4 w5:=by
  have:=Step.frame (c.pageTo k x m').hl [] (by simpa using s4) b5
  simpa using this.from_drew
 have s5:=f5.sep;have ec:Q0b (c.pageTo k x m').pg=Q0b c.pg:=Q2r _ _ _ _ hx hb;have el:(c.pageTo k x m').pg.length=n+1:=by simp[CA.pageTo,hn]
 have ed:(c.pageTo k x m').dropPg k=c.dropPg k:=by simp[CA.pageTo,CA.dropPg,List.eraseIdx_set_eq]
 have hC:=CA.sepC s5.left;have BB:(c.pageTo k x m').c=c.c:=rfl;have hR:=CA.sepR s5.left;have BG:(c.pageTo k x m').rv=some (rb,Aa):=Am;rw[BG,ec] at hR;obtain⟨o,ho,Ac,rfl,AM,A6⟩:=hR.get (b:=rb) (q:=isR 236 (Aa*2) (Q0b c.pg)) (by simp[rowH]);have AX:=ok.rv;rw[Am,hn] at AX;have Bp:=ok.len;have Ej:(Q0b c.pg).length=(n+1)*2:=by rw[Q2q,hn]
 have ox:∀v∈Q0b c.pg,v.oneCell'=true:=by
  intro v hv;unfold Q0b at hv;obtain⟨y,_,hy⟩:=Z0o.1 hv;simp at hy;rcases hy with rfl|rfl <;> rfl
 refine⟨rfl,⟨hC.cell 0 _ rfl,?_⟩,?_,?_⟩
 ·exact Q0h ((b5.chg.block g hg4 hgk)) 1
 ·have:=hC.cell 2 _ rfl;rw[BG,el] at this;exact this
 ·refine(Q8F ho AM A6 Ej (by omega) (by omega) AX.1 AX.2 ox).mono ?_;rintro r w6⟨rfl,q1,q2⟩;have Ao:c.c≠rb:=fun e=>by
   have AO:=s5.left.nd;unfold CA.hl at AO;rw[BG] at AO;simp[rowH] at AO;exact AO.1.1 (by simpa[CA.pageTo] using e)
  have A5:=q2.block c.c (s5.lt (by simp[CA.hl,CA.pageTo])) (fun e=>Ao (Z0C e));refine⟨rfl,⟨_,(Q0h A5 2).trans (hC.cell 2 _ rfl)⟩,?_,rfl,d',b1,b2,b3,b4,?_⟩
  ·have:=hC.free 2;rw[BB] at this
   simpa only[World.frozen?,A5] using this
  ·have hd:=CA.dropStep s5.left BG k n (by rw[el];omega) el (by rw[ec];exact⟨rfl,q1,q2⟩);rw[ed,BB] at hd;have:=Step.frame [] d'.hl (by simpa using s5) hd;exact(Ah.trans f5).trans (by simpa using this)
theorem Q5T{w:World}{c:CA}{d:BD}(h:Sep w (c.hl++d.hl))(ok:c.Ok)(hd:d.At)(hbb:c.bb=d.b)(a:Nat)(ha:a<9223372036854775808)(k i:Nat)(x:BM×Nat)(hs:Q1G c a=some (k,i))(hx:c.pg[k]?=some x)(hi:x.1.bits[i]?.getD false=true)(AQ:cntB (x.1.bits.set i false)=0)(hp:x.2∈d.ps) :
  Calls prog 77 #[.pointer (some ⟨c.c,0,none⟩),.int .i64 a] w (Q7B c d k x.2 w):=by
 have k1:=Q2H h.left ok a ha;rw[hs] at k1;have hk:=(Z0k.1 hx).1;have AK:i<x.1.bits.length:=by
  rcases Z2h i x.1.bits.length with e|e
  ·exact e
  ·rw[Z1r e] at hi;cases hi
 have C0:=ok.many x (Z1O hx);have Cp:x.1.bits.length<=1048576:=by rw[C0];have:=Z1j 960 c.size;omega
 have Bp:=ok.len;obtain⟨rb,Aa,Am⟩:∃rb Aa,c.rv=some (rb,Aa):=by
  cases e:c.rv with
  | none=>have:=ok.rv;rw[e] at this;have:c.pg.length=0:=this;omega
  | some p=>exact⟨p.1,p.2,rfl⟩
 obtain⟨n,hn⟩:∃n,c.pg.length=n+1:=⟨c.pg.length-1,by omega⟩
 have Bj:Hid (∀w1,Below w.heap.size w w1->w1.cell? ⟨c.c,2,none⟩=some (.slice (some ⟨rb,0,none⟩) (n+1) Aa)/\w1.cell? ⟨rb,k*2,none⟩=some (.pointer (some ⟨x.1.b,0,none⟩))/\w1.cell? ⟨rb,k*2+1,none⟩=some (.int .i64 ((1024*x.2:Nat):Int)) /\
   Calls prog 127 #[.pointer (some ⟨x.1.b,0,none⟩),.bool false,.slice (some ⟨w1.heap.size+1,0,none⟩) 1 1] ((w1.alloc (.cells #[.pointer (some ⟨x.1.b,0,none⟩),.int .i64 ((1024*x.2:Nat):Int)] 236)).alloc (.cells #[.int .i64 i] 3)) fun r w4=>r=.returned (.int .i64 1) /\
    w4.cell? ⟨w1.heap.size,0,none⟩=some (.pointer (some ⟨x.1.b,0,none⟩))/\w4.cell? ⟨w1.heap.size,1,none⟩=some (.int .i64 ((1024*x.2:Nat):Int))/\w4.cell? ⟨c.c,0,none⟩=some (.pointer (some ⟨d.b,0,none⟩)) /\
    Calls prog 144 #[.pointer (some ⟨x.1.b,0,none⟩)] w4 (fun r w5=>r=.returned (.int .i64 0)/\w4=w5) /\
    Calls prog 145 #[.pointer (some ⟨d.b,0,none⟩),.int .i64 ((1024*x.2:Nat):Int)] w4.drew fun r w5=>r=.returned (.int .i64 0)/\(w5.cell? ⟨c.c,0,none⟩=some (.pointer (some ⟨d.b,0,none⟩))/\w5.cell? ⟨w1.heap.size,1,none⟩=some (.int .i64 ((1024*x.2:Nat):Int))) /\
     w5.cell? ⟨c.c,2,none⟩=some (.slice (some ⟨rb,0,none⟩) (n+1) Aa) /\
     Calls prog 146 #[.slice (some ⟨rb,0,none⟩) (n+1) Aa,.int .i64 k,.int .i64 ((k:Int)+1)] w5 fun r w6=>r=.returned (.slice (some ⟨rb,0,none⟩) n Aa) /\
      (∃v,w6.cell? ⟨c.c,2,none⟩=some v)/\w6.frozen? ⟨c.c,2,none⟩=false/\Q7B c d k x.2 w (.returned (.int .i64 0)) (w6.setCell ⟨c.c,2,none⟩ (.slice (some ⟨rb,0,none⟩) n Aa))):=fun w1 hb=>by
  have s1:=(h.grown hb).sep;have A3:=CA.sepR s1.left;rw[Am] at A3;obtain⟨e1,e2⟩:=Q0y _ _ _ hx;have Ay:=(CA.sepC s1.left).cell 2 _ rfl;rw[Am,hn] at Ay;refine⟨Ay,Q0r A3 _ _ e1,Q0r A3 _ _ e2,?_⟩;have s3:=(s1.alloc (.cells #[.pointer (some ⟨x.1.b,0,none⟩),.int .i64 ((1024*x.2:Nat):Int)] 236)).alloc (.cells #[.int .i64 i] 3);have sb:=CA.sepB s3.left k x hx;have Ae:∀b∈keys x.1.hl,b<w1.heap.size:=fun b A5=>(CA.sepB s1.left k x hx).lt A5
  have hz:((w1.alloc (.cells #[.pointer (some ⟨x.1.b,0,none⟩),.int .i64 ((1024*x.2:Nat):Int)] 236))).heap.size=w1.heap.size+1:=by simp
  have An:=Q0P sb false i AK Cp (by rw[hi];simp) (w1.heap.size+1) (by
   have:=(Cells.new (w1.alloc (.cells #[.pointer (some ⟨x.1.b,0,none⟩),.int .i64 ((1024*x.2:Nat):Int)] 236)) 3 [.int .i64 i]).cell 0 _ rfl;rw[hz] at this;exact this) (fun hm=>by have:=Ae _ hm;omega)
  refine An.mono ?_;rintro r w4⟨rfl,Ah⟩;have DM:=CA.turnB s3.left k x hx {x.1 with bits:=x.1.bits.set i false} rfl Ah;have A8:Step (c.hl++d.hl) ((c.pageTo k x {x.1 with bits:=x.1.bits.set i false}).hl++d.hl) w w4:=by
   have:=Step.frame [] d.hl (by simpa using s3) DM;exact(h.grown hb).trans (Step.from_alloc (Step.from_alloc (by simpa using this)))
  have D7:w1.heap.size∉keys x.1.hl:=fun hm=>by have:=Ae _ hm;omega
  have A5:=Ah.chg.block w1.heap.size (by simp;omega) D7;have Au:=((Cells.new w1 236 [.pointer (some ⟨x.1.b,0,none⟩),.int .i64 ((1024*x.2:Nat):Int)]).alloc (.cells #[.int .i64 i] 3))
  have g4:w1.heap.size<w4.heap.size:=by
   have:=Ah.chg.size;simp at this;omega
  have Js:w1.heap.size∉keys d.hl:=fun hm=>by have:=s1.right.lt hm;omega
  have d1:=(Q0h A5 1).trans (Au.cell 1 _ rfl);have d0:=(CA.sepC A8.sep.left).cell 0 _ rfl;have d0':w4.cell? ⟨c.c,0,none⟩=some (.pointer (some ⟨d.b,0,none⟩)):=by rw[<- hbb];exact d0
  refine⟨rfl,(Q0h A5 0).trans (Au.cell 0 _ rfl),d1,d0',?_,?_⟩
  ·have:=Q1N Ah.sep (by simpa using Cp);rw[AQ] at this;exact this
  ·have ht:=Q5S k x {x.1 with bits:=x.1.bits.set i false} hx rfl Am hn ok hd hp w1.heap.size Js g4 A8;rw[d1,hbb] at ht;exact ht
 have HQ:Hid (∀r w',Told w (Q1z (some (k,i))) r w'->r=.returned (.tuple #[.int .i64 k,.int .i64 i,.bool true])/\Below w.heap.size w w'):=fun r w' ⟨e,hb⟩=>⟨e,hb⟩
 have Br:(0:Int)<=k:=by omega
 have EN:(k:Int)<(n:Int)+1:=by omega
 have Jp:(k:Int)<1048576:=by omega
 have AU:(0:Int)<=i:=by omega
 have CD:(i:Int)<1048576:=by omega
 have hw:IntKind.i64.wrap ((k:Int)+1)=(k:Int)+1:=Go.IntWalk.i64_in _ (by omega);clear h ok hs hx hi AK C0 Cp Am AQ hd hbb hp hk Bp;obtain⟨GL,Ee⟩:∃GL:Ending->World->Prop,GL=Q7B c d k x.2 w:=⟨_,rfl⟩
 rw[<- Ee] at Bj ⊢;clear Ee hn;generalize 1024*x.2=pv at *
 generalize x.1.b=b at *
 generalize c.c=cc at *
 generalize d.b=db at *
 go_enter func77,ntmps77;go_wp2_with fail;refine k1.mono ?_;rintro r w1 hf;obtain⟨rfl,hb⟩:=HQ.out _ _ hf;obtain⟨c1,c2,c3,An⟩:=Bj.out _ hb;have BL:=Q0a An;clear An hf hb;go_wp2_with fail;refine BL.out.mono ?_;rintro r w4⟨rfl,d1,d2,d3,d4,d5⟩;have HG:=Q0a d5;have HC:=Q0a d4;clear d4 d5;go_wp2_with fail;refine HC.out.mono ?_;rintro r w5⟨rfl,rfl⟩;have d2':w4.drew.cell? ⟨w1.heap.size,1,none⟩=some (.int .i64 pv):=d2;have d3':w4.drew.cell? ⟨cc,0,none⟩=some (.pointer (some ⟨db,0,none⟩)):=d3;go_wp2_with fail
 go_region_held3 (fun w'=>w'.cell? ⟨cc,0,none⟩=some (.pointer (some ⟨db,0,none⟩))/\w'.cell? ⟨w1.heap.size,1,none⟩=some (.int .i64 pv))
  (first|exact⟨d3,d2⟩|exact⟨d3',d2'⟩|exact⟨e0,e1⟩)
  (first|(go_at_call 145;refine HG.out.mono ?_;rintro r w6⟨rfl,⟨e0,e1⟩,e2,e3⟩;have HD:=Q0a e3;clear e3))
 go_wp2_with fail;refine HD.out.mono ?_;rintro r w7⟨rfl,⟨v,f1⟩,f2,f3⟩;have HF:=Q0a f3;clear f3;go_wp2_with fail;exact HF.out
theorem Q2K{rv:RV}{n:Nat}(h:rvOk rv n):∃a cp,lvOf rv n=.slice a n cp/\(∀rb Aa,rv=some (rb,Aa)->a=some ⟨rb,0,none⟩):=by
 cases rv with
 | none=>exact⟨none,0,by show Value.slice none 0 0=_;rw[show n=0 from h],fun _ _ e=>by cases e⟩
 | some p=>exact⟨_,_,rfl,fun _ _ e=>by cases e;rfl⟩
theorem Q5U{rv:RV}{n j:Nat}(h:rvOk rv n)(hj:j<n):∃rb Aa,rv=some (rb,Aa):=by
 cases rv with
 | none=>have:n=0:=h;omega
 | some p=>exact⟨p.1,p.2,rfl⟩
def Q5V(c:CA)(w:World)(a:Option Addr):Prop:=∀j w1,j<c.pg.length->Below w.heap.size w w1->∃rb b p,a=some ⟨rb,0,none⟩/\w1.cell? ⟨rb,j*2,none⟩=some (.pointer (some ⟨b,0,none⟩))/\w1.cell? ⟨rb,j*2+1,none⟩=some (.int .i64 p) /\
   Calls prog 72 #[.pointer (some ⟨b,0,none⟩),.bool false,.int .i64 0] (w1.alloc (.cells #[.pointer (some ⟨b,0,none⟩),.int .i64 p] 236)) fun r w'=>r=.returned (.int .i64 (-1))/\(w1.alloc (.cells #[.pointer (some ⟨b,0,none⟩),.int .i64 p] 236))=w'
theorem Q5W{w:World}{c:CA}(h:Sep w c.hl)(ok:c.Ok)(As:∀y∈c.pg,Q1i y=none)(a:Option Addr)(ha:∀rb Aa,c.rv=some (rb,Aa)->a=some ⟨rb,0,none⟩):Q5V c w a:=by
 intro j w1 hj hb;obtain⟨rb,Aa,Am⟩:=Q5U ok.rv hj;have hy:c.pg[j]?=some c.pg[j]:=Z1R hj;have s1:=(h.grown hb).sep;have A3:=CA.sepR s1;rw[Am] at A3;obtain⟨e1,e2⟩:=Q0y _ _ _ hy;have Be:c.pg[j].1.bits.length<=60:=by
  rw[ok.many _ (Z1O hy)];have:=ok.s0;exact Q9Z (Z2x this (by omega)) (by omega)
 refine⟨rb,_,_,ha _ _ Am,Q0r A3 _ _ e1,Q0r A3 _ _ e2,?_⟩;have:=Q0G (CA.sepB (s1.alloc (.cells #[.pointer (some ⟨c.pg[j].1.b,0,none⟩),.int .i64 ((1024*c.pg[j].2:Nat):Int)] 236)) j _ hy) false 0 (by omega) (by omega);have e:=As _ (Z1O hy);unfold Q1i at e;rw[e] at this;exact this
theorem Q3K{w:World}{c:CA}(h:Sep w c.hl)(ok:c.Ok)(As:∀y∈c.pg,Q1i y=none)(db:Nat)(hbb:c.bb=db)(Q:Ending->World->Prop)
  (Ar:∀w1,Below w.heap.size w w1->Calls prog 129 #[.pointer (some ⟨db,0,none⟩),.int .i64 0] w1 fun r w2=>r=.returned (.tuple #[.int .i64 0,.int .i64 4])/\Q (.returned (.tuple #[.int .i64 0,.int .i64 4])) w2) :
  Calls prog 69 #[.pointer (some ⟨c.c,0,none⟩)] w Q:=by
 obtain⟨a,cp,hv,ha⟩:=Q2K ok.rv;have A0:=Q5W h ok As a ha;have Ay:w.cell? ⟨c.c,2,none⟩=some (.slice a c.pg.length cp):=by
  have:=(CA.sepC h).cell 2 _ rfl;rw[hv] at this;exact this
 have Cn:Hid (∀w1,Below w.heap.size w w1->w1.cell? ⟨c.c,0,none⟩=some (.pointer (some ⟨db,0,none⟩))):=fun w1 hb=>by
  have:=(CA.sepC ((h.grown hb).sep)).cell 0 _ rfl;rw[hbb] at this;exact this
 have Bp:=ok.len;have HF:=Q0a A0;have F0:=Q0a Ar;clear h ok A0 As Ar hbb ha hv;unfold Q5V at HF;generalize c.pg.length=np at *
 generalize c.c=cc at *
 go_enter func69,ntmps69;go_wp2_with fail
 go_loopw [19] (fun jv wr=>∃j:Nat,jv=.int .i64 j/\j<=np/\Below w.heap.size w wr) (fun jv _=>np+1-(intOf jv).toNat)
 case atStart=>exact⟨0,rfl,Z1C _,Below.refl _ _⟩
 case round =>
  obtain⟨j,rfl,hj,hb⟩:=hrel;by_cases Ae:j<np
  ·obtain⟨rb,b,p,rfl,c1,c2,Aw⟩:=HF.out j wr Ae hb;have AP:=Q0a Aw;have HB:=Q0a (((hb.alloc (by exact hb.size) (.cells #[.pointer (some ⟨b,0,none⟩),.int .i64 p] 236))));clear Aw;go_wp2_with (go_at_call 72;refine AP.out.mono ?_;rintro e w'⟨rfl,rfl⟩);go_roundw
   case rel=>exact⟨j+1,by go_num,by omega,HB.out⟩
   case measure=>simp[intOf];omega
  ·obtain rfl:j=np:=by omega
   have c0:=Cn.out _ hb;have HN:=Q0a (F0.out _ hb);go_wp2_with fail;refine HN.out.mono ?_;rintro r w2⟨rfl,hq⟩;have HQ:=Q0a hq;clear hq;go_wp2_with fail;exact HQ.out
theorem Q5X{w:World}{c:CA}{d:BD}{G:Nat->Nat->Bool}(h:Sep w (c.hl++d.hl))(ok:c.Ok)(As:∀y∈c.pg,Q1i y=none)(hbb:c.bb=d.b)(hi:d.Is G)(hn:∀k,k<=d.top->fstG G d.top k 0=none) :
  Calls prog 69 #[.pointer (some ⟨c.c,0,none⟩)] w (Told w (.tuple #[.int .i64 0,.int .i64 4])):=
 Q3K h.left ok As d.b hbb _ fun w1 hb=>(Q4T ((h.grown hb).sep).right hi hn).mono fun _ _ ⟨e,e'⟩=>⟨e,rfl,by rw[<- e'];exact hb⟩
def NewT(c:CA)(d:BD)(p:Nat)(w w1:World):Prop:=
 Calls prog 129 #[.pointer (some ⟨d.b,0,none⟩),.int .i64 0] w1 fun r w2=>r=.returned (.tuple #[.int .i64 ((1024*p:Nat):Int),.int .i64 0]) /\
  Calls prog 130 #[.pointer (some ⟨c.c,0,none⟩)] w2 fun r w'=>r=.returned (.int .i64 ((960/c.size:Nat):Int))/\w2=w' /\
  Calls prog 126 #[.int .i64 ((960/c.size:Nat):Int)] w2 fun r w3=>∃mb,r=.returned (.pointer (some ⟨mb,0,none⟩)) /\
  Calls prog 127 #[.pointer (some ⟨mb,0,none⟩),.bool true,.slice (some ⟨w3.heap.size+1,0,none⟩) 1 1] ((w3.alloc (.cells #[.pointer (some ⟨mb,0,none⟩),.int .i64 ((1024*p:Nat):Int)] 236)).alloc (.cells #[.int .i64 0] 3)) fun r w4=>r=.returned (.int .i64 1) /\
  Calls prog 131 #[.pointer (some ⟨c.c,0,none⟩),.int .i64 ((1024*p:Nat):Int)] w4 fun r w5=>r=.returned (.tuple #[.int .i64 (Q0f c.pg p),.bool (Q1h c.pg p)]) /\
   w5.cell? ⟨w3.heap.size,0,none⟩=some (.pointer (some ⟨mb,0,none⟩))/\w5.cell? ⟨w3.heap.size,1,none⟩=some (.int .i64 ((1024*p:Nat):Int))/\w5.cell? ⟨c.c,2,none⟩=some (lvOf c.rv c.pg.length) /\
  Calls prog 132 #[lvOf c.rv c.pg.length,.int .i64 (Q0f c.pg p),.slice (some ⟨w5.heap.size,0,none⟩) 1 1] (w5.drew.alloc (.cells #[.pointer (some ⟨mb,0,none⟩),.int .i64 ((1024*p:Nat):Int)] 236)) fun r w6=>∃(g6 AI:Nat) (v6:Value),v6=.slice (some ⟨g6,0,none⟩) (c.pg.length+1) AI/\r=.returned v6 /\
   w6.cell? ⟨w3.heap.size,0,none⟩=some (.pointer (some ⟨mb,0,none⟩))/\w6.cell? ⟨w3.heap.size,1,none⟩=some (.int .i64 ((1024*p:Nat):Int))/\c.c≠w3.heap.size/\w6.cell? ⟨c.c,2,none⟩=some (lvOf c.rv c.pg.length)/\w6.frozen? ⟨c.c,2,none⟩=false /\
   Calls prog 128 #[.pointer (some ⟨c.c,0,none⟩),.agg #[.pointer (some ⟨mb,0,none⟩),.int .i64 ((1024*p:Nat):Int)],.int .i64 0] (w6.setCell ⟨c.c,2,none⟩ v6) fun r w7=>r=.returned (.int .i64 ((addr c.size p 0:Nat):Int))/\Q7u c d p w (.returned (.tuple #[.int .i64 ((addr c.size p 0:Nat):Int),.int .i64 0])) w7
theorem Q9P{w w1:World}{c:CA}{d:BD}(h:Sep w (c.hl++d.hl))(hb:Below w.heap.size w w1)(ok:c.Ok)(ha:d.At)(Bp:c.pg.length<1048576)(k0 i0:Nat)(Br:k0<=d.top)(hf:fstG (fre (uOf d.ps) d.top) d.top k0 0=some i0)(hp:∀k,k<k0->fstG (fre (uOf d.ps) d.top) d.top k 0=none)(hn:∀x∈c.pg,x.2≠i0*2 ^ k0)(B7:i0*2 ^ k0<1048576) :
  NewT c d (i0*2 ^ k0) w w1:=by
 have s1:=(h.grown hb)
 unfold NewT;have Cu:=ok.s0;have By:=ok.s1;have Bq:960/c.size<=60:=Q9Z (Z2x Cu (by omega)) (by omega);have Ea:0<960/c.size:=Nat.div_pos (by omega) (by omega);refine(Q4U s1.sep.right ha k0 i0 Br hf hp).mono ?_;rintro r w2⟨rfl,d',b1,b2,b3,b4,st2⟩;generalize i0*2 ^ k0=p at *
 have s2:Step (c.hl++d.hl) (c.hl++d'.hl) w w2:=by
  have:=Step.frame c.hl [] (by simpa using s1.sep) st2;exact s1.trans (by simpa using this)
 refine⟨rfl,(Q7f s2.sep.left ok).mono ?_⟩;rintro r w'⟨rfl,rfl⟩;refine⟨rfl,rfl,(Q2U s2.sep (960/c.size) (by omega)).mono ?_⟩;rintro r w3⟨m,rfl,hm,st3⟩;have s3:=s2.trans st3;refine⟨m.b,rfl,?_⟩;have a3:=(s3.sep.alloc (.cells #[.pointer (some ⟨m.b,0,none⟩),.int .i64 ((1024*p:Nat):Int)] 236)).alloc (.cells #[.int .i64 0] 3);have hz:((w3.alloc (.cells #[.pointer (some ⟨m.b,0,none⟩),.int .i64 ((1024*p:Nat):Int)] 236))).heap.size=w3.heap.size+1:=by simp
 have Ae:∀b∈keys (m.hl++(c.hl++d'.hl)),b<w3.heap.size:=fun b A5=>s3.sep.lt A5
 have An:=Q0P a3.left true 0 (by rw[hm];simpa using Ea) (by rw[hm];simp;omega) (by rw[hm];rw[Z1B,if_pos Ea];simp) (w3.heap.size+1) (by
   have:=(Cells.new (w3.alloc (.cells #[.pointer (some ⟨m.b,0,none⟩),.int .i64 ((1024*p:Nat):Int)] 236)) 3 [.int .i64 0]).cell 0 _ rfl;rw[hz] at this;exact this) (fun B5=>by have:=Ae (w3.heap.size+1) (by simp only[keys_append,Z0v];exact .inl B5);omega)
 refine An.mono ?_;rintro r w4⟨rfl,st4⟩;have f4:Step (m.hl++(c.hl++d'.hl)) (({m with bits:=m.bits.set 0 true}:BM).hl++(c.hl++d'.hl)) w3 w4:=by
  have:=Step.frame [] (c.hl++d'.hl) (by simpa using a3) st4;exact Step.from_alloc (Step.from_alloc (by simpa using this))
 have s4:=s3.trans f4;have g4:w3.heap.size<w4.heap.size:=by
  have:=st4.chg.size;simp at this;omega
 have D7:w3.heap.size∉keys m.hl:=fun B5=>by have:=Ae _ (by simp only[keys_append,Z0v];exact .inl B5);omega
 have A5:=st4.chg.block w3.heap.size (by simp;omega) D7;have Au:=((Cells.new w3 236 [.pointer (some ⟨m.b,0,none⟩),.int .i64 ((1024*p:Nat):Int)]).alloc (.cells #[.int .i64 0] 3))
 refine⟨rfl,(Q4o s4.sep.right.left ok p).mono ?_⟩;rintro r w5⟨rfl,CR⟩;have s5:=s4.trans (s4.sep.grown CR);have DG:w5.heap[w3.heap.size]?=w4.heap[w3.heap.size]?:=CR.block _ g4;have x0:=(Q0h DG 0).trans ((Q0h A5 0).trans (Au.cell 0 _ rfl));have x1:=(Q0h DG 1).trans ((Q0h A5 1).trans (Au.cell 1 _ rfl));refine⟨rfl,x0,x1,(CA.sepC s5.sep.right.left).cell 2 _ rfl,?_⟩;have g5:w3.heap.size<w5.heap.size:=by have:=CR.size;omega
 have CI:w3.heap.size∉keys (c.hl++(({m with bits:=m.bits.set 0 true}:BM).hl++d'.hl)):=fun B5=>by
  have:=Ae w3.heap.size (by simp only[keys_append,Z0v] at B5 ⊢;rcases B5 with h1|h1|h1;exact .inr (.inl h1);exact .inl h1;exact .inr (.inr h1));omega
 have s5':Step (c.hl++d.hl) (c.hl++(({m with bits:=m.bits.set 0 true}:BM).hl++d'.hl)) w w5:=s5.perm (Z2K _) (by
  rw[<- Z0F,<- Z0F];exact Z2l _ Z2m)
 refine(Q7v p w3.heap.size ok hn B7 Bp (by show m.bits.set 0 true=_;rw[hm]) b1 b2 b3 b4 s5' g5 CI).mono ?_;rintro r w6⟨g6,AI,v6,h6,rfl,e1,e2,e3,e4⟩;refine⟨g6,AI,v6,h6,rfl,(Q0h e1 0).trans x0,(Q0h e1 1).trans x1,?_,e2,e3,e4⟩;rintro e;exact CI (by rw[<- e];simp[CA.hl])
theorem Q0M{w:World}{p:Addr}{v:Value}{o:Obj}(h:w.cell? p=some v):(w.alloc o).cell? p=some v:=by
 have hl:p.block<w.heap.size:=by
  rcases Z2h p.block w.heap.size with e|e
  ·exact e
  ·unfold World.cell? at h;rw[Array.getElem?_eq_none e] at h;cases h
 exact(World.cell?_of_block (w:=w) (Below.heap_alloc _ _ _ hl)).trans h
theorem Q7C{w:World}{c:CA}{d:BD}(h:Sep w (c.hl++d.hl))(ok:c.Ok)(ha:d.At)(As:∀y∈c.pg,Q1i y=none)(hbb:c.bb=d.b)(Bp:c.pg.length<1048576)(k0 i0:Nat)(Br:k0<=d.top)(hf:fstG (fre (uOf d.ps) d.top) d.top k0 0=some i0)(hp:∀k,k<k0->fstG (fre (uOf d.ps) d.top) d.top k 0=none)(hn:∀x∈c.pg,x.2≠i0*2 ^ k0)(B7:i0*2 ^ k0<1048576) :
  Calls prog 69 #[.pointer (some ⟨c.c,0,none⟩)] w (Q7u c d (i0*2 ^ k0) w):=by
 obtain⟨a,cp,hv,Ep⟩:=Q2K ok.rv;have A0:=Q5W h.left ok As a Ep;have Ay:w.cell? ⟨c.c,2,none⟩=some (.slice a c.pg.length cp):=by
  have:=(CA.sepC h.left).cell 2 _ rfl;rw[hv] at this;exact this
 have Cn:Hid (∀w1,Below w.heap.size w w1->w1.cell? ⟨c.c,0,none⟩=some (.pointer (some ⟨d.b,0,none⟩))/\NewT c d (i0*2 ^ k0) w w1):=fun w1 hb=>by
  have:=(CA.sepC ((h.left.grown hb).sep)).cell 0 _ rfl;rw[hbb] at this;exact⟨this,Q9P h hb ok ha Bp k0 i0 Br hf hp hn B7⟩
 have HF:=Q0a A0;clear h ok A0 As hbb Ep hf hp hn B7 ha Br;unfold Q5V at HF;unfold NewT at Cn;rw[hv] at Cn;clear hv;obtain⟨TN,GM⟩:∃TN:Ending->World->Prop,TN=Q7u c d (i0*2 ^ k0) w:=⟨_,rfl⟩
 rw[<- GM] at Cn ⊢;clear GM;generalize addr c.size (i0*2 ^ k0) 0=ad at *
 generalize 1024*(i0*2 ^ k0)=q at *
 generalize 960/c.size=n at *
 generalize Q0f c.pg (i0*2 ^ k0)=bl at *
 generalize Q1h c.pg (i0*2 ^ k0)=hp at *
 generalize c.pg.length=np at *
 generalize c.c=cc at *
 generalize d.b=db at *
 go_enter func69,ntmps69;go_wp2_with fail
 go_loopw [19] (fun jv wr=>∃j:Nat,jv=.int .i64 j/\j<=np/\Below w.heap.size w wr) (fun jv _=>np+1-(intOf jv).toNat)
 case atStart=>exact⟨0,rfl,Z1C _,Below.refl _ _⟩
 case round =>
  obtain⟨j,rfl,hj,hb⟩:=hrel;by_cases Ae:j<np
  ·obtain⟨rb,b,p,rfl,c1,c2,Aw⟩:=HF.out j wr Ae hb;have AP:=Q0a Aw;have HB:=Q0a (((hb.alloc (by exact hb.size) (.cells #[.pointer (some ⟨b,0,none⟩),.int .i64 p] 236))));clear Aw;go_wp2_with (go_at_call 72;refine AP.out.mono ?_;rintro e w'⟨rfl,rfl⟩);go_roundw
   case rel=>exact⟨j+1,by go_num,by omega,HB.out⟩
   case measure=>simp[intOf];omega
  ·obtain rfl:j=np:=by omega
   obtain⟨c0,Hm⟩:=Cn.out _ hb;have HN:=Q0a Hm;clear Hm;go_wp2_with fail;refine HN.out.mono ?_;rintro r w2⟨rfl,hq⟩;have H2:=Q0a hq;clear hq;go_wp2_with fail;refine H2.out.mono ?_;rintro r w2'⟨rfl,rfl,hq⟩;have H3:=Q0a hq;clear hq;go_wp2_with fail;refine H3.out.mono ?_;rintro r w3⟨mb,rfl,hq⟩;have H4:=Q0a hq;clear hq;go_wp2_with fail;refine H4.out.mono ?_;rintro r w4⟨rfl,hq⟩;have H5:=Q0a hq;clear hq;go_wp2_with fail;refine H5.out.mono ?_;rintro r w5⟨rfl,x0,x1,x2,hq⟩;have H6:=Q0a hq;clear hq;have y0:w5.drew.cell? ⟨w3.heap.size,0,none⟩=some (.pointer (some ⟨mb,0,none⟩)):=x0;have y1:w5.drew.cell? ⟨w3.heap.size,1,none⟩=some (.int .i64 q):=x1
   have y2:w5.drew.cell? ⟨cc,2,none⟩=some (.slice a j cp):=x2;go_wp2_with fail;have HX:=Q0a (show _/\_/\_ from⟨x2,x0,x1⟩);have u0:(w5.alloc (.cells #[.pointer (some ⟨mb,0,none⟩),.int .i64 q] 236)).cell? ⟨w3.heap.size,0,none⟩=some (.pointer (some ⟨mb,0,none⟩)):=Q0M HX.out.2.1;have u1:(w5.alloc (.cells #[.pointer (some ⟨mb,0,none⟩),.int .i64 q] 236)).cell? ⟨w3.heap.size,1,none⟩=some (.int .i64 q):=Q0M HX.out.2.2;have u2:(w5.alloc (.cells #[.pointer (some ⟨mb,0,none⟩),.int .i64 q] 236)).cell? ⟨cc,2,none⟩=some (.slice a j cp):=Q0M HX.out.1
   go_region_law (first|(go_simp;go_at_call 132;refine H6.out.mono ?_;rintro r w6⟨g6,AI,v6,rfl,rfl,z0,z1,Ao,z2,Ha,hq⟩;have H7:=Q0a hq;clear hq))
   all_goals
    have p0:(w6.setCell ⟨cc,2,none⟩ (.slice (some ⟨g6,0,none⟩) (j+1) AI)).cell? ⟨w3.heap.size,0,none⟩=some (.pointer (some ⟨mb,0,none⟩)):=(World.cell?_of_block (w:=w6) (Below.heap_setCell _ _ _ _ (fun e=>Ao e.symm))).trans z0;have p1:(w6.setCell ⟨cc,2,none⟩ (.slice (some ⟨g6,0,none⟩) (j+1) AI)).cell? ⟨w3.heap.size,1,none⟩=some (.int .i64 q):=(World.cell?_of_block (w:=w6) (Below.heap_setCell _ _ _ _ (fun e=>Ao e.symm))).trans z1;clear z0 z1 z2 Ha x0 x1 x2 y0 y1 y2 u0 u1 u2;go_wp2_with fail;refine H7.out.mono ?_;rintro r w7⟨rfl,Ev⟩;have Gm:=Q0a Ev;clear Ev;go_wp2_with fail;exact Gm.out
end Go.Proofs.YtfidemmgofcnmaaGreatDoor
