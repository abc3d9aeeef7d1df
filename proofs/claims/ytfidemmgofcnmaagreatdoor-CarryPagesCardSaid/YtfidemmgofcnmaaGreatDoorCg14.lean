/- CarryPages returns true at every input. No condition. Part of its proof. -/
import Derived.Test.YtfidemmgofcnmaaGreatDoorCg13
set_option maxHeartbeats 2000000
set_option linter.unusedVariables false
namespace Go.Proofs.YtfidemmgofcnmaaGreatDoor
open Go.RowKit Go.Proofs.Tryz
theorem Q8u{t:TB}{k:Nat}(h:t.noneIn k=true):∀s,s<256->s/16=k->t.en s=none:=by
 intro s hs hk;unfold TB.noneIn at h;rw[J2m] at h;have:=h (s%16) (Z9I.2 (J2n _ (by omega)));rw[show 16*k+s%16=s by omega] at this;exact Option.isNone_iff_eq_none.1 this
theorem Q7x{t:TB}{k:Nat}(hk:k<16)(h:t.noneIn k=false):∃s,s<256/\s/16=k/\t.en s≠none:=by
 unfold TB.noneIn at h;rw[List.all_eq_false] at h;obtain⟨j,hj,hn⟩:=h;have:=Z9I.1 hj;refine⟨16*k+j,by omega,by omega,fun e=>hn ?_⟩;rw[e];rfl
section
variable {S:CO} {fr:List Nat} {N K:Nat} {tb:Nat->TB} {own:Int} {xl xn:List Nat}
theorem Q7y(ok:S.Ok fr N K){i:Nat}{p:Pl}(hi:S.l[i]?=some p)(h1:p.st=1):∃e,find S.P.q.E (p.fac:Int)=some e:=ok.inv.tre.fac p (J1x hi) (Pl.is_iff.2 (.inl h1))
theorem TPX.paid(ok:S.Ok fr N K)(t:TPX S tb own xl xn){e:En Fa}(he:find S.P.q.E own=some e):256*(xl.length:Int)+48*(xn.length:Int)<=e.q.charged:=by
 have h1:=ok.inv.tre.charged own e he;have h2:=t.xc own;rw[if_pos rfl] at h2;have h3:=Z2Q S.l tb own;have h4:=Q5M S.l own;omega
theorem Z0F(ok:S.Ok fr N K)(t:TPX S tb own xl xn){i s:Nat}{p:Pl}(hi:S.l[i]?=some p)(h1:p.st=1)(h2:p.kind=2)(Am:(p.fac:Int)=own)(hs:s<256){e:Ent}(he:(tb i).en s=some e){w:World}{g:Nat}(A7:Sep w S.hl)(hg:TblC S p g w) :
  Calls prog 173 #[.pointer (some ⟨g,0,none⟩),.int .i64 s] w fun r w'=>r=.returned (.int .i64 0)/\Put1 S fr N K tb own xl (e.nd::xn) i s none w w':=by
 have Ao:=Q1B ok.inv.len hi;have T:=t.tt ok hi h1 h2 A7 hg;have hl:(tb i).lf (s/16)≠0:=fun h=>by
  have:=T.tin.hole s hs h;rw[he] at this;cases this
 have hL:=t.leaf Ao (by omega:s/16<16) hl;have hm:=Q0l ok.inv.mem.pool hL;have hb:=Q0f ok.inv.mem.pool;have c0:=hg.c0;have kg:=Q6E T (s:Int);rw[show(tb i).at' (s:Int)=some e by unfold TB.at';rw[if_pos ⟨by omega,by omega⟩,J0o,he]] at kg;have km:=Q4z w (s:Int);rw[decide_eq_true (show 0<=(s:Int)/\(s:Int)<256 from⟨by omega,by omega⟩)] at km;have kl:=Q3K T s hs;have ka:=Q0y (CO.sP A7);have ks:=Q2D w ((tb i).lf (s/16)) s (by omega) hs;have BS:((e.nd::xn)++((tb i).setE s none).nds).Perm (xn++(tb i).nds):=by
  refine List.Perm.trans ?_ (J2a xn (TB.nds_clr hs he).symm);exact J2K.symm
 have AX:∃p∈S.l,p.st=1/\(p.fac:Int)=own:=⟨p,J1x hi,h1,Am⟩
 have HX:Hid (Calls prog 57 #[.pointer (some ⟨S.P.a.a,0,none⟩),.int .i64 (((tb i).lf (s/16)+16*(s%16):Nat):Int),.slice (some ⟨w.heap.size,0,none⟩) 2 2] (w.alloc (.cells #[.int .u64 0,.int .u64 0] 83)) fun r w2 =>
   r=.returned (.int .i64 0)/\w2.cell? ⟨g,0,none⟩=some (.pointer (some ⟨S.P.p,0,none⟩))/\∃b:Bool,Calls prog 215 #[.pointer (some ⟨g,0,none⟩),.int .i64 (((tb i).lf (s/16):Nat):Int)] w2 (fun r w'=>r=.returned (.bool b)/\w2=w') /\
    ((b=false/\Put1 S fr N K tb own xl (e.nd::xn) i s none w w2) ∨
     (b=true/\Calls prog 50 #[.pointer (some ⟨S.P.p,0,none⟩)] w2 (fun r w'=>r=.returned (.pointer (some ⟨S.P.a.a,0,none⟩))/\w2=w') /\
     Calls prog 179 #[.pointer (some ⟨g,0,none⟩),.int .i64 s] w2 (fun r w'=>r=.returned (.int .i64 ((p.at_+8*(s/16):Nat):Int))/\w2=w') /\
     Calls prog 57 #[.pointer (some ⟨S.P.a.a,0,none⟩),.int .i64 ((p.at_+8*(s/16):Nat):Int),.slice (some ⟨w2.heap.size,0,none⟩) 1 1] (w2.alloc (.cells #[.int .u64 0] 83)) (fun r w3=>r=.returned (.int .i64 0)/\(w3.cell? ⟨g,0,none⟩=some (.pointer (some ⟨S.P.p,0,none⟩))/\w3.cell? ⟨g,1,none⟩=some (.int .i64 (p.fac:Int))) /\
      Calls prog 21 #[.pointer (some ⟨S.P.p,0,none⟩),.int .i64 (p.fac:Int),.int .i64 7,.int .i64 (((tb i).lf (s/16):Nat):Int)] w3.drew (fun r w4=>r=.returned (.int .i64 0)/\(w4.cell? ⟨g,0,none⟩=some (.pointer (some ⟨S.P.p,0,none⟩))/\w4.cell? ⟨g,1,none⟩=some (.int .i64 (p.fac:Int)))/\Put1 S fr N K tb own xl (e.nd::xn) i s none w w4))))):=by
  refine(Q3o (o:=none) ok t hi h1 h2 Am hs hl BS (by decide) (by decide) A7).mono ?_;rintro r w2⟨rfl,S2,ok2,t2,al2,st2⟩;have BA:=hg.alt al2 st2;have c2:=BA.c0;rw[al2.same.p] at c2;have E7:S2.l[i]?=some p:=by rw[al2.l];exact hi
  have T2:=t2.tt ok2 E7 h1 h2 st2.sep BA;rw[updT_same] at T2;have ke:=Z0E T2 (s/16) (by omega) hl;refine⟨rfl,c2,((tb i).setE s none).noneIn (s/16),ke,?_⟩;cases Aq:((tb i).setE s none).noneIn (s/16) with
  | false =>
   refine .inl ⟨rfl,S2,_,ok2,t2,fun _=>rfl,fun hf k hk h0=>?_,fun _=>.inr (.inr rfl),al2,st2⟩;by_cases CQ:k=s/16
   ·rw[CQ];exact Q7x (by omega) Aq
   ·obtain⟨x,hx,e1,e2⟩:=hf k hk h0;refine⟨x,hx,e1,?_⟩;show(if x=s then none else(tb i).en x)≠none;rw[if_neg (fun h=>CQ (by rw[<- e1,h]))];exact e2
  | true =>
   have Fx:=Q0y (CO.sP st2.sep);rw[al2.same.aa,al2.same.p] at Fx;refine .inr ⟨rfl,Fx,Q5a T2 s hs,?_⟩;have Ih:(((tb i).lf (s/16)::xl)++((updT tb i ((tb i).setE s none) i).setL (s/16) 0).lvs).Perm (xl++(updT tb i ((tb i).setE s none) i).lvs):=by
    rw[updT_same];refine List.Perm.trans ?_ (J2a xl (TB.lvs_drop (t:=(tb i).setE s none) (k:=s/16) (by omega) hl).symm);exact J2K.symm
   have kr:=Q5R (L:=0) ok2 t2 E7 h1 h2 Am (by omega:s/16<16) (by omega) Ih (.inr ⟨rfl,fun x hx K6=>by rw[updT_same];exact Q8u Aq x hx K6⟩) st2.sep;rw[al2.same.aa] at kr;refine kr.mono ?_;rintro r w3⟨rfl,S3,ok3,t3,al3,st3⟩;rw[updT_same,Q1D] at t3;have al23:=al2.trans al3;have st23:=st2.trans st3;have K4:=hg.alt al23 st23;have c3:=K4.c0;rw[al23.same.p] at c3;refine⟨rfl,⟨c3,K4.c1⟩,?_⟩;have Ql:S3.l[i]?=some p:=by rw[al23.l];exact hi
   obtain⟨ac,F7⟩:=Q7y ok3 Ql h1;rw[Am] at F7 ⊢;have J9:=t3.paid ok3 F7;rw[Z9W,Z9W] at J9;obtain⟨c,hc⟩:=PL.cls ok3.inv.mem.pool (by omega:1<=7) (by omega);have Nt:(tb i).lf (s/16)∈S3.P.usedOf 7:=t3.lvs.mem_iff.1 (by simp);have Ou:=Q0l ok3.inv.mem.pool Nt;have Ax:=Q0f ok3.inv.mem.pool;have kp:=Q3A (CO.sP st3.sep.drew) ok3.inv.mem.pool own F7 7 (by rw[Q2f];omega) c hc ((tb i).lf (s/16)) (by rw[<- Q0I hc];exact Nt) (by omega);rw[al23.same.p] at kp;refine kp.mono ?_;rintro r w4⟨rfl,P',g7,st⟩;have Ka:∃p∈S3.l,p.st=1/\(p.fac:Int)=own:=by rw[al23.l];exact AX
   obtain⟨ok4,t4⟩:=TPX.put (xl:=xl) (xn:=e.nd::xn) ok3 (.inr rfl) (by rw[if_pos rfl,if_neg (by decide)];exact t3) g7 Ka;have al4:=Alt.put ok3 g7;have st4:Step S3.hl (S3.paid P' own (-((Q0d 7:Nat):Int))).hl w3 w4:=(CO.stepPaid st3.sep.drew P' own _ g7.p st).from_drew;have alz:=al23.trans al4;have stz:=st23.trans st4;have KG:=hg.alt alz stz;have c4:=KG.c0;rw[alz.same.p] at c4;have OR:=KG.c1;rw[Am] at OR;refine⟨rfl,⟨c4,OR⟩,_,_,ok4,t4,fun _=>rfl,fun hf k hk h0=>?_,fun k=>?_,alz,stz⟩
   rotate_left
   ·by_cases CQ:k=s/16
    ·refine .inr (.inl ?_);show(if k=s/16 then 0 else(tb i).lf k)=0;rw[if_pos CQ]
    ·refine .inr (.inr ?_);show(if k=s/16 then 0 else(tb i).lf k)=_;rw[if_neg CQ]
   have Dd:(if k=s/16 then 0 else(tb i).lf k)≠0:=h0;have CQ:k≠s/16:=fun h=>Dd (by rw[if_pos h])
   rw[if_neg CQ] at Dd;obtain⟨x,hx,e1,e2⟩:=hf k hk Dd;refine⟨x,hx,e1,?_⟩;show(if x=s then none else(tb i).en x)≠none;rw[if_neg (fun h=>CQ (by rw[<- e1,h]))];exact e2
 have Ct:Q0q (some e)≠0:=fun h=>by simpa using codeA_zero.1 h
 have Ab:(((Q0q (some e):Nat):Int)==0)=false:=by simpa using Ct
 generalize Put1 S fr N K tb own xl (e.nd::xn) i s none w=Q at *
 unfold getV at kg;unfold ptr at *
 generalize Q0q (some e)=x at *
 generalize Q0L (some e)=y at *
 generalize ((tb i).lf (s/16)+16*(s%16):Nat)=v at *
 generalize (tb i).lf (s/16)=L at *
 generalize (p.at_+8*(s/16):Nat)=u at *
 generalize (p.fac:Int)=fa at *
 clear ok t hi T BS A7 hg Am h1 h2 hl Ct AX hL hm;go_enter func173,ntmps173;go_wp2_with fail;refine kg.mono ?_;rintro e w'⟨rfl,rfl⟩;go_wp2_with fail;refine km.mono ?_;rintro e w'⟨rfl,rfl⟩;go_wp2_with fail;refine kl.mono ?_;rintro e w'⟨rfl,rfl⟩;go_wp2_with fail;refine ka.mono ?_;rintro e w'⟨rfl,rfl⟩;go_wp2_with fail;refine ks.mono ?_;rintro e w'⟨rfl,rfl⟩;go_wp2_with fail;refine HX.out.mono ?_;rintro e w2⟨rfl,c2,b,ke,hy⟩;have HY:=Q0a hy;clear hy HX;go_wp2_with fail;refine ke.mono ?_;rintro e w'⟨rfl,rfl⟩;rcases HY.out with ⟨rfl,hy⟩|⟨rfl,Fx,kr,hy⟩
 ·have HZ:=Q0a hy;clear hy HY;go_wp2_with fail
  (try go_ret);exact⟨rfl,HZ.out⟩
 ·have HZ:=Q0a hy;clear hy HY;go_wp2_with fail;refine Fx.mono ?_;rintro e w'⟨rfl,rfl⟩;go_wp2_with fail;refine kr.mono ?_;rintro e w'⟨rfl,rfl⟩;go_wp2_with fail;refine HZ.out.mono ?_;rintro e w3⟨rfl,⟨c3,Oq⟩,hp⟩;have d3:w3.drew.cell? ⟨g,0,none⟩=some (.pointer (some ⟨S.P.p,0,none⟩)):=c3;have d31:w3.drew.cell? ⟨g,1,none⟩=some (.int .i64 fa):=Oq;have HP:=Q0a hp;clear hp HZ ke Fx kr;go_wp2_with fail
  go_region_held3 (fun w'=>w'.cell? ⟨g,0,none⟩=some (.pointer (some ⟨S.P.p,0,none⟩))/\w'.cell? ⟨g,1,none⟩=some (.int .i64 fa)) (first|exact⟨c3,Oq⟩|exact⟨d3,d31⟩|exact Ak)
   (first|(go_at_call 21;refine HP.out.mono ?_;rintro r w4⟨rfl,Ak,hq⟩;have HQ:=Q0a hq;clear hq HP))
  go_wp2_with fail
  (try go_ret);exact⟨rfl,HQ.out⟩
end
section
variable {w:World} {S:CO} {t:TB} {p:Pl} {g:Nat}
end
theorem Z7K{w:World}{S:CO}{fr:List Nat}{N K:Nat}(hs:Sep w S.hl)(ok:S.Ok fr N K){p:Pl}(hu:p.at_∈S.P.usedOf 2):Calls prog 169 #[.pointer (some ⟨S.P.p,0,none⟩),.int .i64 (p.fac:Int),.int .i64 (p.at_:Int)] w fun r w'=>∃g:Nat,r=.returned (.pointer (some ⟨g,0,none⟩))/\Below w.heap.size w w'/\TblC S p g w'/\w.heap.size<=g:=by
 have hm:=Q0l ok.inv.mem.pool hu;have Cr:=Q0f ok.inv.mem.pool;have kh:=Q6v (CO.sP hs) ok.inv.mem.pool 2 (p.at_:Int) (by unfold Z2c;omega);have ES:S.P.has 2 (p.at_:Int)=true:=by
  unfold PL.has PL.usedI;rw[decide_eq_true_eq,if_pos (by omega),J0o];exact⟨by omega,hu⟩
 rw[ES] at kh;have HF:Hid (∀w1,Below w.heap.size w w1->(∃g:Nat,(Ending.returned (.pointer (some ⟨w1.heap.size,0,none⟩)):Ending)=.returned (.pointer (some ⟨g,0,none⟩))/\Below w.heap.size w (w1.alloc (.cells #[ptr S.P.p,.int .i64 (p.fac:Int),.int .i64 (p.at_:Int)] 277))/\TblC S p g (w1.alloc (.cells #[ptr S.P.p,.int .i64 (p.fac:Int),.int .i64 (p.at_:Int)] 277))/\w.heap.size<=g)):=fun w1 hb=>by
  refine⟨w1.heap.size,rfl,hb.alloc hb.size _,fun j v hj=>⟨w1.heap.size,rfl,fun hk=>?_,by simp,?_⟩,hb.size⟩
  ·have:=hs.lt hk;have:=hb.size;omega
  ·exact(Cells.new w1 277 [ptr S.P.p,.int .i64 (p.fac:Int),.int .i64 (p.at_:Int)]).cell j v hj
 unfold ptr at HF;clear hs ok hu hm Cr ES;go_enter func169,ntmps169;go_wp2_with fail;refine kh.mono ?_;rintro r w1⟨rfl,hb⟩;have HX:=Q0a (HF.out w1 hb);clear hb kh;go_wp2_with fail
 (try go_ret);exact HX.out
structure FO where
 f:Nat
 m:Nat
 o:Nat
 N:List (En Nd)
 next:Int
 kr:Int->RV
def Nd.cells(n:Nd)(rv:RV):List Value:=[.int .i64 n.sp,.int .i64 n.sl,.int .i64 n.par,lvOf rv n.ks.length]
def ndH(kr:Int->RV)(e:En Nd):HL:=(e.b,isC 285 (e.q.cells (kr e.id)))::rowH (kr e.id) 3 1 (e.q.ks.map encI)
def okv(N:List (En Nd)):SKV:=N.map fun e=>((e.q.sp,e.q.sl),.int .i64 e.id)
def isMS(kv:SKV):Obj->Prop:=isM (kv.map fun q=>(Q1Q q.1,q.2))
def FO.head(q:FO):Nat×(Obj->Prop):=(q.f,isC 283 [.map (some q.m),.map (some q.o),.int .i64 q.next])
def FO.hl(q:FO):HL:=q.head::(q.m,isMI (kvs q.N))::(q.o,isMS (okv q.N))::q.N.flatMap (ndH q.kr)
structure FO.Ok(q:FO):Prop where
 n:NOk q.N q.next
 lim:q.next<1099511627776
 rv:∀e∈q.N,rvOk (q.kr e.id) e.q.ks.length
 few:q.N.length<=65536
theorem Q8v:WideMaps.KeyLaw prog 173:=deep_law (m:=2) (by omega) (by kernel_rfl) (by kernel_rfl) (by kernel_rfl)
theorem Q5c{p:Int×Int}(h1:0<=p.1)(h2:p.1<9223372036854775808)(h3:0<=p.2)(h4:p.2<9223372036854775808):Q1o prog 173 p:=by
 have hu:=underlying173;have hi:=underlying3;have hk:prog.keyType 173=true:=by kernel_rfl
 have hc:prog.cellsOf 173=2:=by kernel_rfl
 have Dv:prog.cellsOf 3=1:=by kernel_rfl
 obtain⟨m,hm⟩:∃m,prog.types.size=m+1:=⟨prog.types.size-1,by
  have:0<prog.types.size:=of_decide_eq_true (by kernel_rfl);omega⟩
 have e1:IntKind.i64.min = -9223372036854775808:=rfl;have e2:IntKind.i64.max=9223372036854775807:=rfl;have wa:(Lit.int .i64 p.1).wf=true:=by
  simp only[Lit.wf,Z9M,decide_eq_true_eq,e1,e2];omega
 have wb:(Lit.int .i64 p.2).wf=true:=by
  simp only[Lit.wf,Z9M,decide_eq_true_eq,e1,e2];omega
 unfold Q1o Q1Q keyOf;simp only[hu];rw[if_pos (by simp[hk,Value.formed,hu,hc]),hm];unfold Program.keyLits;simp only[hu,Value.cells];rw[if_pos (by simp[hc])];exact⟨_,by simp[Program.keyLits,hi,wa,wb,Dv];rfl⟩
section
variable {w:World} {q:FO}
theorem FO.c(h:Sep w q.hl):Cells w q.f 283 [.map (some q.m),.map (some q.o),.int .i64 q.next]:=h.cells (by simp[FO.hl,FO.head])
theorem FO.c0(h:Sep w q.hl):w.cell? ⟨q.f,0,none⟩=some (.map (some q.m)):=(FO.c h).cell 0 _ rfl
theorem FO.c1(h:Sep w q.hl):w.cell? ⟨q.f,1,none⟩=some (.map (some q.o)):=(FO.c h).cell 1 _ rfl
theorem FO.c2(h:Sep w q.hl):w.cell? ⟨q.f,2,none⟩=some (.int .i64 q.next):=(FO.c h).cell 2 _ rfl
theorem FO.map(h:Sep w q.hl):Q0C w q.m (kvs q.N):=h.map (by simp[FO.hl,isMI])
theorem FO.omap(h:Sep w q.hl):Q2z w q.o (okv q.N):=h.map (by simp[FO.hl,isMS])
theorem FO.nd(h:Sep w q.hl){id:Int}{e:En Nd}(hf:find q.N id=some e):Cells w e.b 285 (e.q.cells (q.kr e.id)):=
 h.cells (by
  simp only[FO.hl,Z9x];exact .inr (.inr (.inr (Z9P.2 ⟨e,(Q0e hf).1,by simp[ndH]⟩))))
theorem Q9t(ok:q.Ok):(okv q.N).Pairwise (fun a b=>a.1≠b.1):=by
 unfold okv;rw[Z9T];exact ok.n.spots
theorem Q9u(ok:q.Ok):∀p∈okv q.N,Q1o prog 173 p.1:=fun p hp=>by
 obtain⟨e,he,rfl⟩:=Z9y.1 hp;have:=ok.n.sm e he;exact Q5c (by show 0<=e.q.sp;omega) (by show e.q.sp<_;omega) (by show 0<=e.q.sl;omega) (by show e.q.sl<_;omega)
end
def ownN(N:List (En Nd))(sp sl:Int):Int:=match N.find? fun e=>decide ((e.q.sp,e.q.sl)=(sp,sl)) with
 | some e=>e.id
 | none=>0
theorem Z2W(N:List (En Nd))(sp sl:Int):(Q3a (okv N) (sp,sl)).getD (.int .i64 0)=.int .i64 (ownN N sp sl):=by
 unfold Q3a okv ownN;rw[List.find?_map];cases h:List.find? ((fun q=>decide (q.1=(sp,sl))) ∘ fun(e:En Nd)=>((e.q.sp,e.q.sl),Value.int .i64 e.id)) N with
 | none =>
  have:N.find? (fun e=>decide ((e.q.sp,e.q.sl)=(sp,sl)))=none:=h;rw[this];rfl
 | some e =>
  have:N.find? (fun e=>decide ((e.q.sp,e.q.sl)=(sp,sl)))=some e:=h;rw[this];rfl
theorem Z2X{N:List (En Nd)}{next:Int}(ok:NOk N next){e:En Nd}(he:e∈N):ownN N e.q.sp e.q.sl=e.id:=by
 unfold ownN;cases h:N.find? fun x=>decide ((x.q.sp,x.q.sl)=(e.q.sp,e.q.sl)) with
 | none =>
  have:=J1c.1 h e he;simp at this
 | some x =>
  have hx:=J3n h;have hp:=J3o h;simp only[decide_eq_true_eq] at hp;simp only[Prod.mk.injEq] at hp;rw[Q8s ok hx he hp.1 hp.2]
theorem Q5d{N:List (En Nd)}{next:Int}(ok:NOk N next){sp sl:Int}:ownN N sp sl=0↔∀e∈N,(e.q.sp,e.q.sl)≠(sp,sl):=by
 unfold ownN;cases h:N.find? fun x=>decide ((x.q.sp,x.q.sl)=(sp,sl)) with
 | none =>
  simp only[true_iff];intro e he hc;have:=J1c.1 h e he;exact this (by simpa using hc)
 | some x =>
  have hx:=J3n h;have hp:=J3o h;simp only[decide_eq_true_eq] at hp;have:=ok.rng x hx
  constructor
  ·intro h0;have Dd:x.id=0:=h0;omega
  ·intro A8;exact absurd hp (A8 x hx)
section
variable {w:World} {q:FO}
theorem Q7z(w:World):(zeroValue 278).run prog w=.ok (.pointer none) w:=by kernel_rfl
theorem FO.look_some(h:Sep w q.hl){id:Int}{e:En Nd}(hf:find q.N id=some e) :
  (Instr.lookup 280 (.map (some q.m)) (.int .i64 id) false).run prog w=.ok (.pointer (some ⟨e.b,0,none⟩)) w:=by
 rw[Q0P (FO.map h) id false (.pointer none) underlying280 underlying3 (Q7z w)];simp[Q4s,hf,ptr]
theorem FO.look_none(h:Sep w q.hl){id:Int}(hf:find q.N id=none) :
  (Instr.lookup 280 (.map (some q.m)) (.int .i64 id) false).run prog w=.ok (.pointer none) w:=by
 rw[Q0P (FO.map h) id false (.pointer none) underlying280 underlying3 (Q7z w)];simp[Q4s,hf]
theorem FO.look_own(h:Sep w q.hl)(ok:q.Ok){sp sl:Int}(hp:Q1o prog 173 (sp,sl)) :
  (Instr.lookup 281 (.map (some q.o)) (.agg #[.int .i64 sp,.int .i64 sl]) false).run prog w=.ok (.int .i64 (ownN q.N sp sl)) w:=by
 have:=Q4X (FO.omap h) Q8v (Q9t ok) (Q9u ok) hp false (.int .i64 0) underlying281 (Q9b w);rw[Z2W] at this;exact this
theorem Q4A(h:Sep w q.hl){id:Int}{e:En Nd}(hf:find q.N id=some e) :
  Calls prog 180 #[.pointer (some ⟨q.f,0,none⟩),.int .i64 id] w fun r w'=>r=.returned (.pointer (some ⟨e.b,0,none⟩))/\w=w':=by
 have h0:=FO.c0 h;have hl:=FO.look_some h hf;clear h hf;go_enter func180,ntmps180
 go_wp2
 go_ret;exact⟨rfl,rfl⟩
theorem Q6F(h:Sep w q.hl){id:Int}(hf:find q.N id=none) :
  Calls prog 180 #[.pointer (some ⟨q.f,0,none⟩),.int .i64 id] w fun r w'=>r=.returned (.pointer none)/\w=w':=by
 have h0:=FO.c0 h;have hl:=FO.look_none h hf;clear h hf;go_enter func180,ntmps180
 go_wp2
 go_ret;exact⟨rfl,rfl⟩
theorem Z2Y(h:Sep w q.hl)(ok:q.Ok){sp sl:Int}(hp:Q1o prog 173 (sp,sl)) :
  Calls prog 161 #[.pointer (some ⟨q.f,0,none⟩),.int .i64 sp,.int .i64 sl] w fun r w'=>r=.returned (.int .i64 (ownN q.N sp sl))/\w=w':=by
 have h1:=FO.c1 h;have hl:=FO.look_own h ok hp;clear h hp ok;generalize ownN q.N sp sl=z at *
 go_enter func161,ntmps161
 go_wp2
 go_ret;exact⟨rfl,rfl⟩
theorem FO.nd0(h:Sep w q.hl){id:Int}{e:En Nd}(hf:find q.N id=some e):w.cell? ⟨e.b,0,none⟩=some (.int .i64 e.q.sp)/\w.cell? ⟨e.b,1,none⟩=some (.int .i64 e.q.sl)/\w.cell? ⟨e.b,2,none⟩=some (.int .i64 e.q.par)/\w.cell? ⟨e.b,3,none⟩=some (lvOf (q.kr e.id) e.q.ks.length):=by
 have k:=FO.nd h hf;exact⟨k.cell 0 _ rfl,k.cell 1 _ rfl,k.cell 2 _ rfl,k.cell 3 _ rfl⟩
end
theorem Z5w(f:En Nd->Nd)(N:List (En Nd)):kvs (mapE f N)=kvs N:=by
 unfold kvs mapE;rw[J1r];rfl
theorem Z5x{f:En Nd->Nd}{N:List (En Nd)}(h:∀c∈N,(f c).sp=c.q.sp/\(f c).sl=c.q.sl):okv (mapE f N)=okv N:=by
 unfold okv mapE;rw[J1r];exact J1s fun c hc=>by simp[(h c hc).1,(h c hc).2]
def FO.setN(q:FO)(id:Int)(n:Nd)(rv:RV):FO:={q with N:=mapE (fun c=>if c.id=id then n else c.q) q.N,kr:=fun j=>if j=id then rv else q.kr j}
theorem FO.split{q:FO}(Ag:q.N.Pairwise (fun a b=>a.id≠b.id)){id:Int}{e:En Nd}(hf:find q.N id=some e) :
  ∃R:HL,q.hl.Perm (((e.b,isC 285 (e.q.cells (q.kr id)))::rowH (q.kr id) 3 1 (e.q.ks.map encI))++R)/\∀(n:Nd) (rv:RV),n.sp=e.q.sp->n.sl=e.q.sl ->
   (q.setN id n rv).hl.Perm (((e.b,isC 285 (n.cells rv))::rowH rv 3 1 (n.ks.map encI))++R):=by
 obtain⟨he,hid⟩:=Q0e hf;obtain⟨A,B,hN⟩:=List.append_of_mem he;have hA:∀c∈A,c.id≠id:=fun c hc=>by
  rw[hN,Z9X] at Ag;have:=Ag.2.2 c hc e (by simp);rw[hid] at this;exact this
 have hB:∀c∈B,c.id≠id:=fun c hc=>by
  rw[hN,Z9X,Z9Q] at Ag;have:=Ag.2.1.1 c hc;rw[hid] at this;exact this.symm
 have mid:∀(X Y:HL) (h1 h2 h3:Nat×(Obj->Prop)) (Z:HL),(h1::h2::h3::(X++(Z++Y))).Perm (Z++(h1::h2::h3::(X++Y))):=fun X Y h1 h2 h3 Z=>by
  have e1:h1::h2::h3::(X++(Z++Y))=(h1::h2::h3::X)++(Z++Y):=by simp
  have e2:Z++(h1::h2::h3::(X++Y))=Z++((h1::h2::h3::X)++Y):=by simp
  rw[e1,e2,<- J0j,<- J0j];exact J1W Y J1X
 refine⟨q.head::(q.m,isMI (kvs q.N))::(q.o,isMS (okv q.N))::(A.flatMap (ndH q.kr)++B.flatMap (ndH q.kr)),?_,fun n rv h1 h2=>?_⟩
 ·unfold FO.hl;have:q.N.flatMap (ndH q.kr)=A.flatMap (ndH q.kr)++(ndH q.kr e++B.flatMap (ndH q.kr)):=by
   conv=>lhs;rw[hN]
   simp
  rw[this];refine(mid _ _ _ _ _ _).trans ?_;unfold ndH;rw[hid]
 ·have e1:kvs (q.setN id n rv).N=kvs q.N:=Z5w _ _;have e2:okv (q.setN id n rv).N=okv q.N:=Z5x fun c hc=>by
   by_cases h:c.id=id
   ·rw[if_pos h];have:c=e:=by
     have:=Q0s Ag hc;rw[h,hf] at this;cases this;rfl
    subst this;exact⟨h1,h2⟩
   ·rw[if_neg h];exact⟨rfl,rfl⟩
  have e3:∀L:List (En Nd),(∀c∈L,c.id≠id)->(mapE (fun c=>if c.id=id then n else c.q) L).flatMap (ndH (q.setN id n rv).kr)=L.flatMap (ndH q.kr):=fun L hL=>by
   rw[Q8r (fun c hc=>if_neg (hL c hc))];unfold List.flatMap;congr 1;exact J1s fun c hc=>by
    unfold ndH FO.setN;simp only[if_neg (hL c hc)]
  have e4:(q.setN id n rv).N.flatMap (ndH (q.setN id n rv).kr)=A.flatMap (ndH q.kr)++(((e.b,isC 285 (n.cells rv))::rowH rv 3 1 (n.ks.map encI))++B.flatMap (ndH q.kr)):=by
   have:(q.setN id n rv).N=mapE (fun c=>if c.id=id then n else c.q) A++({e with q:=n}::mapE (fun c=>if c.id=id then n else c.q) B):=by
    show mapE _ q.N=_
    conv=>lhs;rw[hN]
    unfold mapE;have LZ:(fun c:En Nd=>if c.id=id then n else c.q) e=n:=if_pos hid;rw[J2J,Z9v,LZ]
   rw[this,Z9U,Z9O,e3 A hA,e3 B hB];congr 2;unfold ndH FO.setN;simp only[hid,if_true]
  unfold FO.hl;rw[e1,e2,e4];exact mid _ _ _ _ _ _
def FO.app(q:FO)(b:Nat)(n:Nd):FO:={q with N:=q.N++[⟨q.next+1,b,n⟩],next:=q.next+1,kr:=fun j=>if j=q.next+1 then none else q.kr j}
theorem FO.new_none{q:FO}(ok:q.Ok):find q.N (q.next+1)=none:=by
 cases hf:find q.N (q.next+1) with
 | none=>rfl
 | some e =>
  obtain⟨e1,e2⟩:=Q0e hf;have:=ok.n.rng e e1;omega
theorem FO.appSteps{w:World}{q:FO}(h:Sep w q.hl)(ok:q.Ok){sp sl par:Int}(hp:Q1o prog 173 (sp,sl))(Aq:ownN q.N sp sl=0)(W1 W2:World)(hW1:W1=(w.setCell ⟨q.f,2,none⟩ (.int .i64 (q.next+1))).drew)(hW2:W2=W1.alloc (.cells #[.int .i64 sp,.int .i64 sl,.int .i64 par,.slice none 0 0] 285)) :
  ∃w3 w4,(Instr.mapUpdate 280 (.map (some q.m)) (.int .i64 (q.next+1)) (.pointer (some ⟨w.heap.size,0,none⟩))).run prog W2=.ok () w3 /\
   (Instr.mapUpdate 281 (.map (some q.o)) (.agg #[.int .i64 sp,.int .i64 sl]) (.int .i64 (q.next+1))).run prog w3.drew=.ok () w4 /\
   Step q.hl (q.app w.heap.size ⟨sp,sl,par,[]⟩).hl w w4 /\
   w3.cell? ⟨q.f,0,none⟩=some (.map (some q.m))/\w3.cell? ⟨q.f,1,none⟩=some (.map (some q.o))/\w3.cell? ⟨q.f,2,none⟩=some (.int .i64 (q.next+1)) /\
   W1.cell? ⟨q.f,0,none⟩=some (.map (some q.m))/\W1.cell? ⟨q.f,2,none⟩=some (.int .i64 (q.next+1)) /\
   W2.cell? ⟨q.f,0,none⟩=some (.map (some q.m))/\W2.cell? ⟨q.f,2,none⟩=some (.int .i64 (q.next+1)) /\
   (∀b i v,b∉keys q.hl->b<w.heap.size->w.cell? ⟨b,i,none⟩=some v->w3.cell? ⟨b,i,none⟩=some v/\w4.cell? ⟨b,i,none⟩=some v):=by
 have s1:Step q.hl ((q.f,isC 283 [.map (some q.m),.map (some q.o),.int .i64 (q.next+1)])::(q.m,isMI (kvs q.N))::(q.o,isMS (okv q.N))::q.N.flatMap (ndH q.kr)) w (w.setCell ⟨q.f,2,none⟩ (.int .i64 (q.next+1))):=Sep.set (A:=[]) (B:=(q.m,isMI (kvs q.N))::(q.o,isMS (okv q.N))::q.N.flatMap (ndH q.kr)) h 2 (.int .i64 (q.next+1));have s1d:=s1.drew;rw[<- hW1] at s1d;have BB:W1.heap.size=w.heap.size:=by rw[hW1];simp[World.setCell,World.drew]
 have s2:=s1d.sep.new 285 [.int .i64 sp,.int .i64 sl,.int .i64 par,.slice none 0 0];rw[BB] at s2;have s2':Step _ _ W1 W2:=hW2 ▸ s2;have m2:Q0C W2 q.m (kvs q.N):=s2'.sep.map (by simp[isMI]);obtain⟨w3,r3,m3,g3⟩:=Q1d m2 (q.next+1) (.pointer (some ⟨w.heap.size,0,none⟩)) underlying280 underlying3;obtain⟨es,Af,ho,hr⟩:=m3;have s3:=Sep.turn (A:=[(w.heap.size,isC 285 [.int .i64 sp,.int .i64 sl,.int .i64 par,.slice none 0 0]),(q.f,isC 283 [.map (some q.m),.map (some q.o),.int .i64 (q.next+1)])]) (B:=(q.o,isMS (okv q.N))::q.N.flatMap (ndH q.kr)) (q':=isMI (put (kvs q.N) (q.next+1) (ptr w.heap.size))) s2'.sep g3 ⟨_,ho,es,Af,rfl,hr⟩
 have s3d:=s3.drew;have m3':Q2z w3.drew q.o (okv q.N):=s3d.sep.map (by simp[isMS]);have Do:Q3a (okv q.N) (sp,sl)=none:=by
  cases hl:Q3a (okv q.N) (sp,sl) with
  | none=>rfl
  | some v =>
   exfalso;unfold Q3a okv at hl;obtain⟨a,ha,_⟩:=J2Z.1 hl;have h1:=J3n ha;have h2:=J3o ha;obtain⟨c,hc,rfl⟩:=Z9y.1 h1;exact(Q5d ok.n).1 Aq c hc (by simpa using h2)
 obtain⟨w4,r4,m4,g4⟩:=Q3H m3' Q8v (Q9t ok) (Q9u ok) hp (.int .i64 (q.next+1)) Do underlying281;obtain⟨es4,DA,LY,IL⟩:=m4;have s4:=Sep.turn (A:=[(w.heap.size,isC 285 [.int .i64 sp,.int .i64 sl,.int .i64 par,.slice none 0 0]),(q.f,isC 283 [.map (some q.m),.map (some q.o),.int .i64 (q.next+1)]),(q.m,isMI (put (kvs q.N) (q.next+1) (ptr w.heap.size)))]) (B:=q.N.flatMap (ndH q.kr)) (q':=isMS (okv q.N++[((sp,sl),.int .i64 (q.next+1))])) s3d.sep g4 ⟨_,LY,es4,DA,rfl,IL⟩;have t4:=((s1d.trans s2').trans s3d).trans s4;have t3:=(s1d.trans s2').trans s3;refine⟨w3,w4,r3,r4,?_,?_,?_,?_,?_,?_,?_,?_,fun b i v hb Aa hc=>?_⟩
 ·refine t4.perm (J2A _) ?_;have e1:kvs (q.N++[⟨q.next+1,w.heap.size,⟨sp,sl,par,[]⟩⟩])=put (kvs q.N) (q.next+1) (ptr w.heap.size):=(Z1v q.N (q.next+1) w.heap.size _ (FO.new_none ok)).symm;have e2:okv (q.N++[⟨q.next+1,w.heap.size,⟨sp,sl,par,[]⟩⟩])=okv q.N++[((sp,sl),.int .i64 (q.next+1))]:=by
   unfold okv;rw[J2J];rfl
  have e3:(q.N++[(⟨q.next+1,w.heap.size,⟨sp,sl,par,[]⟩⟩:En Nd)]).flatMap (ndH (q.app w.heap.size ⟨sp,sl,par,[]⟩).kr)=q.N.flatMap (ndH q.kr)++[(w.heap.size,isC 285 [.int .i64 sp,.int .i64 sl,.int .i64 par,.slice none 0 0])]:=by
   have a1:q.N.flatMap (ndH (q.app w.heap.size ⟨sp,sl,par,[]⟩).kr)=q.N.flatMap (ndH q.kr):=by
    rw[J3h,J3h];refine congrArg List.flatten (J1s fun c hc=>?_);have:=ok.n.rng c hc;have hk:(q.app w.heap.size ⟨sp,sl,par,[]⟩).kr c.id=q.kr c.id:=if_neg (by omega);unfold ndH;rw[hk]
   have a2:[(⟨q.next+1,w.heap.size,⟨sp,sl,par,[]⟩⟩:En Nd)].flatMap (ndH (q.app w.heap.size ⟨sp,sl,par,[]⟩).kr)=[(w.heap.size,isC 285 [.int .i64 sp,.int .i64 sl,.int .i64 par,.slice none 0 0])]:=by
    have hk:(q.app w.heap.size ⟨sp,sl,par,[]⟩).kr (q.next+1)=none:=if_pos rfl;rw[Z9O,J3f,J1p];unfold ndH;rw[hk];rfl
   rw[Z9U,a1,a2]
  unfold FO.hl FO.head;show List.Perm _ ((q.f,_)::(q.m,isMI (kvs (q.N++[_])))::(q.o,isMS (okv (q.N++[_])))::(q.N++[_]).flatMap _);rw[e1,e2,e3];exact(J2L _ ((q.f,isC 283 [.map (some q.m),.map (some q.o),.int .i64 (q.next+1)])::(q.m,isMI (put (kvs q.N) (q.next+1) (ptr w.heap.size)))::(q.o,isMS (okv q.N++[((sp,sl),.int .i64 (q.next+1))]))::q.N.flatMap (ndH q.kr))).symm
 ·exact(s3.sep.cells (b:=q.f) (T:=283) (cs:=[.map (some q.m),.map (some q.o),.int .i64 (q.next+1)]) (by simp)).cell 0 _ rfl
 ·exact(s3.sep.cells (b:=q.f) (T:=283) (cs:=[.map (some q.m),.map (some q.o),.int .i64 (q.next+1)]) (by simp)).cell 1 _ rfl
 ·exact(s3.sep.cells (b:=q.f) (T:=283) (cs:=[.map (some q.m),.map (some q.o),.int .i64 (q.next+1)]) (by simp)).cell 2 _ rfl
 ·exact(s1d.sep.cells (b:=q.f) (T:=283) (cs:=[.map (some q.m),.map (some q.o),.int .i64 (q.next+1)]) (by simp)).cell 0 _ rfl
 ·exact(s1d.sep.cells (b:=q.f) (T:=283) (cs:=[.map (some q.m),.map (some q.o),.int .i64 (q.next+1)]) (by simp)).cell 2 _ rfl
 ·exact(s2'.sep.cells (b:=q.f) (T:=283) (cs:=[.map (some q.m),.map (some q.o),.int .i64 (q.next+1)]) (by simp)).cell 0 _ rfl
 ·exact(s2'.sep.cells (b:=q.f) (T:=283) (cs:=[.map (some q.m),.map (some q.o),.int .i64 (q.next+1)]) (by simp)).cell 2 _ rfl
 ·exact⟨(World.cell?_of_block (t3.chg.block b Aa hb)).trans hc,(World.cell?_of_block (t4.chg.block b Aa hb)).trans hc⟩
theorem Z5y{w:World}{H:HL}{rv:RV}{l:List Int}(h:Sep w (rowH rv 3 1 (l.map encI)++H))(Bf:rvOk rv l.length)(hl:l.length<=65536)(x:Int)(ty:TypeId) :
  ∃rv' w',(Builtin.append_ #[38,38] ty #[lvOf rv l.length,.slice (some ⟨w.heap.size,0,none⟩) 1 1]).run prog (w.alloc (.cells #[.int .i64 x] 3))=.ok (lvOf rv' (l.length+1)) w'/\rvOk rv' (l.length+1)/\Step (rowH rv 3 1 (l.map encI)++H) (rowH rv' 3 1 ((l++[x]).map encI)++H) w w':=by
 obtain⟨i0,hi,Bq,AM,Bh⟩:=info_parts Z7J;have ha:=h.alloc (.cells #[.int .i64 x] 3);have Am:=Q3u ha.left Bf (by rw[J0S,J0p]);obtain⟨v',w',hr,q1,q2,_,q4⟩:=run_append_own_at (P:=prog) (w.alloc (.cells #[.int .i64 x] 3)) 0 38 ty 3 i0 (.int .i64 0) 1 8 underlying38 hi Bq AM Bh rfl (by decide) (lvOf rv l.length) l.length (l.map encI) Am ⟨w.heap.size,0,none⟩ 1 1 [.int .i64 x] rfl (by
  intro j u hj;have:=(Cells.new w 3 [.int .i64 x]).cell j u hj;have e:(⟨w.heap.size,0,none⟩:Addr).add j=⟨w.heap.size,j,none⟩:=by unfold Addr.add;split <;> simp_all
  rw[e];exact this) (fun u hu=>by rw[J1q.1 hu];rfl) (by unfold maxLen;omega) (by omega) (J1l _)
 obtain⟨rv',rfl,e2,e3⟩:=Q0V (A:=[]) (B:=H) (by simpa using ha) q1 q2 q4;refine⟨rv',w',hr,e2,?_⟩;rw[J2J];have e4:Step (rowH rv 3 1 (l.map encI)++H) (rowH rv' 3 1 (l.map encI++[encI x])++H) (w.alloc (.cells #[.int .i64 x] 3)) w':=by simpa using e3
 exact e4.from_alloc
theorem FO.pushK{w:World}{q:FO}(h:Sep w q.hl)(Ag:q.N.Pairwise (fun a b=>a.id≠b.id)){id:Int}{e:En Nd}(hf:find q.N id=some e)(AA:rvOk (q.kr id) e.q.ks.length)(hl:e.q.ks.length<=65536)(x:Int)(ty:TypeId) :
  ∃rv' w',(Builtin.append_ #[38,38] ty #[lvOf (q.kr id) e.q.ks.length,.slice (some ⟨w.heap.size,0,none⟩) 1 1]).run prog (w.alloc (.cells #[.int .i64 x] 3))=.ok (lvOf rv' (e.q.ks.length+1)) w'/\rvOk rv' (e.q.ks.length+1) /\
   w'.cell? ⟨e.b,3,none⟩=some (lvOf (q.kr id) e.q.ks.length)/\(∀i,w'.frozen? ⟨e.b,i,none⟩=false)/\Step q.hl (q.setN id {e.q with ks:=e.q.ks++[x]} rv').hl w (w'.setCell ⟨e.b,3,none⟩ (lvOf rv' (e.q.ks.length+1))):=by
 obtain⟨R,p1,p2⟩:=FO.split Ag hf;have pm:∀(Z:HL) (a:Nat×(Obj->Prop)),((a::Z)++R).Perm (Z++(a::R)):=fun Z a=>J2K.symm
 have h':Sep w (rowH (q.kr id) 3 1 (e.q.ks.map encI)++((e.b,isC 285 (e.q.cells (q.kr id)))::R)):=h.perm (p1.trans (pm _ _));obtain⟨rv',w',r1,r2,st⟩:=Z5y h' AA hl x ty;have hc:=st.sep.cells (b:=e.b) (T:=285) (cs:=e.q.cells (q.kr id)) (by simp);have s2:=Sep.set (A:=rowH rv' 3 1 ((e.q.ks++[x]).map encI)) (B:=R) st.sep 3 (lvOf rv' (e.q.ks.length+1));refine⟨rv',w',r1,r2,hc.cell 3 _ rfl,hc.free,(st.trans s2).perm ((p1.trans (pm _ _)).symm) ?_⟩;have AS:(e.q.cells (q.kr id)).set 3 (lvOf rv' (e.q.ks.length+1))=Nd.cells {e.q with ks:=e.q.ks++[x]} rv':=by
  unfold Nd.cells;simp
 rw[AS];exact((p2 {e.q with ks:=e.q.ks++[x]} rv' rfl rfl).trans (pm _ _)).symm
theorem NOk.kids_few{N:List (En Nd)}{next:Int}(ok:NOk N next){e:En Nd}(he:e∈N):e.q.ks.length<=N.length:=by
 have:=J3p (ok.nd e he) (l₂:=N.map En.id) (fun k hk=>by
  obtain⟨c,hc,_⟩:=ok.kids e he k hk;obtain⟨c1,c2⟩:=Q0e hc;exact Z9y.2 ⟨c,c1,c2⟩)
 rwa [J0S] at this
theorem Z2Z{w:World}{q:FO}(h:Sep w q.hl)(ok:q.Ok){sp sl:Int}(hp:Q1o prog 173 (sp,sl))(Aq:ownN q.N sp sl=0) :
  Calls prog 105 #[.pointer (some ⟨q.f,0,none⟩),.int .i64 0,.int .i64 sp,.int .i64 sl] w fun r w'=>r=.returned (.tuple #[.int .i64 (q.next+1),.int .i64 0])/\Step q.hl (q.app (w.heap.size+1) ⟨sp,sl,0,[]⟩).hl w w':=by
 have ka:=Q6F h ok.n.zero;have h0:=(h.alloc (.cells #[.int .i64 sp,.int .i64 sl] 173)).drew;have hl:=FO.look_own h0 ok hp;rw[Aq] at hl;have c0:=FO.c0 h;have c1:=FO.c1 h;have c2:=FO.c2 h;have d0:=FO.c0 h0;have d1:=FO.c1 h0;have d2:=FO.c2 h0;have hb:=Cells.new w 173 [.int .i64 sp,.int .i64 sl];obtain⟨w3,w4,r3,r4,st,f0,f1,f2,g0,g2,n0,n2,keep⟩:=FO.appSteps (par:=0) h0 ok hp Aq _ _ rfl rfl;have BB:(w.alloc (.cells #[.int .i64 sp,.int .i64 sl] 173)).drew.heap.size=w.heap.size+1:=by simp[World.drew]
 have CY:w.heap.size∉keys q.hl:=fun hk=>by have:=h.lt hk;omega
 have b0:(w.alloc (.cells #[.int .i64 sp,.int .i64 sl] 173)).drew.cell? ⟨w.heap.size,0,none⟩=some (.int .i64 sp):=hb.cell 0 _ rfl;have b1:(w.alloc (.cells #[.int .i64 sp,.int .i64 sl] 173)).drew.cell? ⟨w.heap.size,1,none⟩=some (.int .i64 sl):=hb.cell 1 _ rfl;have e0:=keep w.heap.size 0 _ CY (by omega) b0;have e1:=keep w.heap.size 1 _ CY (by omega) b1;rw[BB] at r3 st;have HS:Hid (Step q.hl (q.app (w.heap.size+1) ⟨sp,sl,0,[]⟩).hl w w4):=st.from_drew.from_alloc;have A1:∀i,(w.alloc (.cells #[.int .i64 sp,.int .i64 sl] 173)).drew.frozen? ⟨q.f,i,none⟩=false:=(FO.c h0).free;have AW:q.next+1<1099511627777:=by have:=ok.lim;omega
 have JF:=ok.n.next0;have f2':=FO.c2 st.sep;have f2'':w4.cell? ⟨q.f,2,none⟩=some (.int .i64 (q.next+1)):=f2';obtain⟨e00,_⟩:=e0;obtain⟨e10,_⟩:=e1;have x0:(w.alloc (.cells #[.int .i64 sp,.int .i64 sl] 173)).cell? ⟨q.f,0,none⟩=some (.map (some q.m)):=d0;have x1:(w.alloc (.cells #[.int .i64 sp,.int .i64 sl] 173)).cell? ⟨q.f,1,none⟩=some (.map (some q.o)):=d1;have x2:(w.alloc (.cells #[.int .i64 sp,.int .i64 sl] 173)).cell? ⟨q.f,2,none⟩=some (.int .i64 q.next):=d2;have xb0:(w.alloc (.cells #[.int .i64 sp,.int .i64 sl] 173)).cell? ⟨w.heap.size,0,none⟩=some (.int .i64 sp):=b0;have xb1:(w.alloc (.cells #[.int .i64 sp,.int .i64 sl] 173)).cell? ⟨w.heap.size,1,none⟩=some (.int .i64 sl):=b1
 have xf:∀i,(w.alloc (.cells #[.int .i64 sp,.int .i64 sl] 173)).frozen? ⟨q.f,i,none⟩=false:=A1;have y0:((w.alloc (.cells #[.int .i64 sp,.int .i64 sl] 173)).setCell ⟨q.f,2,none⟩ (.int .i64 (q.next+1))).cell? ⟨q.f,0,none⟩=some (.map (some q.m)):=g0;have y2:((w.alloc (.cells #[.int .i64 sp,.int .i64 sl] 173)).setCell ⟨q.f,2,none⟩ (.int .i64 (q.next+1))).cell? ⟨q.f,2,none⟩=some (.int .i64 (q.next+1)):=g2;have z0:(((w.alloc (.cells #[.int .i64 sp,.int .i64 sl] 173)).setCell ⟨q.f,2,none⟩ (.int .i64 (q.next+1))).alloc (.cells #[.int .i64 sp,.int .i64 sl,.int .i64 0,.slice none 0 0] 285)).cell? ⟨q.f,0,none⟩=some (.map (some q.m)):=n0
 have z2:(((w.alloc (.cells #[.int .i64 sp,.int .i64 sl] 173)).setCell ⟨q.f,2,none⟩ (.int .i64 (q.next+1))).alloc (.cells #[.int .i64 sp,.int .i64 sl,.int .i64 0,.slice none 0 0] 285)).cell? ⟨q.f,2,none⟩=some (.int .i64 (q.next+1)):=n2;have r3x:(Instr.mapUpdate 280 (.map (some q.m)) (.int .i64 (q.next+1)) (.pointer (some ⟨w.heap.size+1,0,none⟩))).run prog (((w.alloc (.cells #[.int .i64 sp,.int .i64 sl] 173)).setCell ⟨q.f,2,none⟩ (.int .i64 (q.next+1))).alloc (.cells #[.int .i64 sp,.int .i64 sl,.int .i64 0,.slice none 0 0] 285)).drew.drew=.ok () w3:=r3;clear r3 g0 g2 n0 n2 b0 b1 d0 d1 d2 A1;clear keep st f2' h0 hb h ok hp Aq CY
 go_enter func105,ntmps105;go_wp2_with fail;refine ka.mono ?_;rintro e w'⟨rfl,rfl⟩;go_wp2_with fail;go_region;go_wp2_with fail;go_region;go_wp2_with fail;go_region;go_wp2_with fail
 (try go_ret2);exact⟨rfl,HS.out⟩
theorem Z5z{w:World}{q:FO}(h:Sep w q.hl)(ok:q.Ok){par:Int}{e:En Nd}(hf:find q.N par=some e){sp sl:Int}(hp:Q1o prog 173 (sp,sl))(Aq:ownN q.N sp sl=0) :
  Calls prog 105 #[.pointer (some ⟨q.f,0,none⟩),.int .i64 par,.int .i64 sp,.int .i64 sl] w fun r w'=>r=.returned (.tuple #[.int .i64 (q.next+1),.int .i64 0])/\∃rv',rvOk rv' (e.q.ks.length+1)/\Step q.hl ((q.app (w.heap.size+1) ⟨sp,sl,par,[]⟩).setN par {e.q with ks:=e.q.ks++[q.next+1]} rv').hl w w':=by
 have ka:=Q4A h hf;have h0:=(h.alloc (.cells #[.int .i64 sp,.int .i64 sl] 173)).drew;have hl:=FO.look_own h0 ok hp;rw[Aq] at hl;have c0:=FO.c0 h;have c1:=FO.c1 h;have c2:=FO.c2 h;have d0:=FO.c0 h0;have d1:=FO.c1 h0;have d2:=FO.c2 h0;have hb:=Cells.new w 173 [.int .i64 sp,.int .i64 sl];obtain⟨w3,w4,r3,r4,st,f0,f1,f2,g0,g2,n0,n2,keep⟩:=FO.appSteps (par:=par) h0 ok hp Aq _ _ rfl rfl;have BB:(w.alloc (.cells #[.int .i64 sp,.int .i64 sl] 173)).drew.heap.size=w.heap.size+1:=by simp[World.drew]
 have CY:w.heap.size∉keys q.hl:=fun hk=>by have:=h.lt hk;omega
 have b0:(w.alloc (.cells #[.int .i64 sp,.int .i64 sl] 173)).drew.cell? ⟨w.heap.size,0,none⟩=some (.int .i64 sp):=hb.cell 0 _ rfl;have b1:(w.alloc (.cells #[.int .i64 sp,.int .i64 sl] 173)).drew.cell? ⟨w.heap.size,1,none⟩=some (.int .i64 sl):=hb.cell 1 _ rfl;have e0:=keep w.heap.size 0 _ CY (by omega) b0;have e1:=keep w.heap.size 1 _ CY (by omega) b1;rw[BB] at r3 st;obtain⟨B5,EE⟩:=Q0e hf;have G3:=ok.n.rng e B5;have E5:find (q.app (w.heap.size+1) ⟨sp,sl,par,[]⟩).N par=some e:=by
  show find (q.N++[_]) par=_;rw[Q6D,hf];rfl
 have BP:(q.app (w.heap.size+1) ⟨sp,sl,par,[]⟩).N.Pairwise (fun a b=>a.id≠b.id):=by
  show(q.N++[_]).Pairwise _;rw[Z9X];refine⟨ok.n.ids,by simp,fun x hx y hy=>?_⟩;rw[J1q] at hy;subst hy;have:=ok.n.rng x hx;show x.id≠q.next+1;omega
 have Cq:(q.app (w.heap.size+1) ⟨sp,sl,par,[]⟩).kr par=q.kr par:=if_neg (by omega);have AA:=ok.rv e B5;rw[EE] at AA;have Cz:=ok.n.kids_few B5;have GI:=ok.few;obtain⟨rv',w5,r5,BO,k3,kf,st5⟩:=FO.pushK st.sep.drew BP E5 (by rw[Cq];exact AA) (by omega) (q.next+1) 38;rw[Cq] at r5 k3;have r5x:(Builtin.append_ #[38,38] 38 #[lvOf (q.kr par) e.q.ks.length,.slice (some ⟨w4.heap.size,0,none⟩) 1 1]).run prog (w4.alloc (.cells #[.int .i64 (q.next+1)] 3)).drew=.ok (lvOf rv' (e.q.ks.length+1)) w5:=r5;clear r5;have m3:=(FO.nd st.sep E5).cell 3 (lvOf ((q.app (w.heap.size+1) ⟨sp,sl,par,[]⟩).kr e.id) e.q.ks.length) rfl
 rw[EE,Cq] at m3;have m2:w4.cell? ⟨q.f,2,none⟩=some (.int .i64 (q.next+1)):=FO.c2 st.sep;have sa:=st.sep.alloc (.cells #[.int .i64 (q.next+1)] 3);have v3:=(FO.nd sa E5).cell 3 (lvOf ((q.app (w.heap.size+1) ⟨sp,sl,par,[]⟩).kr e.id) e.q.ks.length) rfl;rw[EE,Cq] at v3;have v2:(w4.alloc (.cells #[.int .i64 (q.next+1)] 3)).cell? ⟨q.f,2,none⟩=some (.int .i64 (q.next+1)):=FO.c2 sa;have u2:(w5.setCell ⟨e.b,3,none⟩ (lvOf rv' (e.q.ks.length+1))).cell? ⟨q.f,2,none⟩=some (.int .i64 (q.next+1)):=FO.c2 st5.sep;have HS:Hid (∃rz,rvOk rz (e.q.ks.length+1)/\Step q.hl ((q.app (w.heap.size+1) ⟨sp,sl,par,[]⟩).setN par {e.q with ks:=e.q.ks++[q.next+1]} rz).hl w (w5.setCell ⟨e.b,3,none⟩ (lvOf rv' (e.q.ks.length+1)))):=⟨rv',BO,(st.trans st5.from_drew).from_drew.from_alloc⟩
 have A1:∀i,(w.alloc (.cells #[.int .i64 sp,.int .i64 sl] 173)).drew.frozen? ⟨q.f,i,none⟩=false:=(FO.c h0).free;have AW:q.next+1<1099511627777:=by have:=ok.lim;omega
 have JF:=ok.n.next0;obtain⟨e00,_⟩:=e0;obtain⟨e10,_⟩:=e1;have x0:(w.alloc (.cells #[.int .i64 sp,.int .i64 sl] 173)).cell? ⟨q.f,0,none⟩=some (.map (some q.m)):=d0;have x1:(w.alloc (.cells #[.int .i64 sp,.int .i64 sl] 173)).cell? ⟨q.f,1,none⟩=some (.map (some q.o)):=d1;have x2:(w.alloc (.cells #[.int .i64 sp,.int .i64 sl] 173)).cell? ⟨q.f,2,none⟩=some (.int .i64 q.next):=d2;have xb0:(w.alloc (.cells #[.int .i64 sp,.int .i64 sl] 173)).cell? ⟨w.heap.size,0,none⟩=some (.int .i64 sp):=b0;have xb1:(w.alloc (.cells #[.int .i64 sp,.int .i64 sl] 173)).cell? ⟨w.heap.size,1,none⟩=some (.int .i64 sl):=b1
 have xf:∀i,(w.alloc (.cells #[.int .i64 sp,.int .i64 sl] 173)).frozen? ⟨q.f,i,none⟩=false:=A1;have y0:((w.alloc (.cells #[.int .i64 sp,.int .i64 sl] 173)).setCell ⟨q.f,2,none⟩ (.int .i64 (q.next+1))).cell? ⟨q.f,0,none⟩=some (.map (some q.m)):=g0;have y2:((w.alloc (.cells #[.int .i64 sp,.int .i64 sl] 173)).setCell ⟨q.f,2,none⟩ (.int .i64 (q.next+1))).cell? ⟨q.f,2,none⟩=some (.int .i64 (q.next+1)):=g2;have z0:(((w.alloc (.cells #[.int .i64 sp,.int .i64 sl] 173)).setCell ⟨q.f,2,none⟩ (.int .i64 (q.next+1))).alloc (.cells #[.int .i64 sp,.int .i64 sl,.int .i64 par,.slice none 0 0] 285)).cell? ⟨q.f,0,none⟩=some (.map (some q.m)):=n0
 have z2:(((w.alloc (.cells #[.int .i64 sp,.int .i64 sl] 173)).setCell ⟨q.f,2,none⟩ (.int .i64 (q.next+1))).alloc (.cells #[.int .i64 sp,.int .i64 sl,.int .i64 par,.slice none 0 0] 285)).cell? ⟨q.f,2,none⟩=some (.int .i64 (q.next+1)):=n2;have r3x:(Instr.mapUpdate 280 (.map (some q.m)) (.int .i64 (q.next+1)) (.pointer (some ⟨w.heap.size+1,0,none⟩))).run prog (((w.alloc (.cells #[.int .i64 sp,.int .i64 sl] 173)).setCell ⟨q.f,2,none⟩ (.int .i64 (q.next+1))).alloc (.cells #[.int .i64 sp,.int .i64 sl,.int .i64 par,.slice none 0 0] 285)).drew.drew=.ok () w3:=r3;clear r3 g0 g2 n0 n2 b0 b1 d0 d1 d2 A1
 obtain⟨va,vk,vc,hV⟩:∃a k c,lvOf rv' (e.q.ks.length+1)=.slice a k c:=by
  cases rv' with
  | none=>exact⟨_,_,_,rfl⟩
  | some p=>exact⟨_,_,_,rfl⟩
 rw[hV] at r5x u2 HS;clear hV;generalize lvOf (q.kr par) e.q.ks.length=V at *
 have HR:=Q0a r5x;clear r5x;clear keep st sa st5 E5 BP Cq AA Cz GI B5 EE G3 hf h0 hb h ok hp Aq CY;go_enter func105,ntmps105;go_wp2_with fail;refine ka.mono ?_;rintro e w'⟨rfl,rfl⟩;go_wp2_with fail;go_region;go_wp2_with fail;go_region;go_wp2_with fail;go_region;go_wp2_with fail
 go_region_law (refine Q0R rfl _ _ 38 38 rfl _ _ (by simp[Act.eval]) (by simp[Act.eval]) HR.out ?_)
 all_goals
  go_wp2_with fail
  (try go_ret2);exact⟨rfl,HS.out⟩
theorem Z3a{q:FO}(ok:q.Ok)(b:Nat)(sp sl:Int):(q.app b ⟨sp,sl,0,[]⟩).N=addN q.N 0 (q.next+1) b sp sl:=by
 unfold addN;rw[Q8r fun c hc=>if_neg (by have:=ok.n.rng c hc;omega)];rfl
theorem Z5A{q:FO}(ok:q.Ok){par:Int}{e:En Nd}(hf:find q.N par=some e)(b:Nat)(sp sl:Int)(rv:RV) :
  ((q.app b ⟨sp,sl,par,[]⟩).setN par {e.q with ks:=e.q.ks++[q.next+1]} rv).N=addN q.N par (q.next+1) b sp sl:=by
 obtain⟨he,hid⟩:=Q0e hf;have hr:=ok.n.rng e he;show mapE _ (q.N++[_])=_;unfold addN mapE;rw[J2J];congr 1
 ·refine J1s fun c hc=>?_
  by_cases h:c.id=par
  ·have:c=e:=by
    have:=Q0s ok.n.ids hc;rw[h,hf] at this;cases this;rfl
   subst this;simp only[h,if_true]
  ·simp only[h,if_false]
 ·have Ab:¬(q.next+1=par):=by omega
  simp only[Z9v,J1P,Ab,if_false]
structure Z3b(q:FO)(par sp sl:Int)(q':FO):Prop where
 f:q'.f=q.f
 m:q'.m=q.m
 o:q'.o=q.o
 N:∃b,q'.N=addN q.N par (q.next+1) b sp sl
 next:q'.next=q.next+1
 ok:q'.Ok
theorem Q9v{w:World}{q:FO}(h:Sep w q.hl)(ok:q.Ok){par sp sl:Int}(Bm:par=0∨∃e,find q.N par=some e)(h1:0<=sp)(h2:sp<4294967296)(h3:0<=sl)(h4:sl<256)(Aq:ownN q.N sp sl=0)(hlim:q.next+1<1099511627776)(Cz:q.N.length<65536) :
  Calls prog 105 #[.pointer (some ⟨q.f,0,none⟩),.int .i64 par,.int .i64 sp,.int .i64 sl] w fun r w'=>r=.returned (.tuple #[.int .i64 (q.next+1),.int .i64 0])/\∃q':FO,Z3b q par sp sl q'/\Step q.hl q'.hl w w':=by
 have hp:=Q5c (p:=(sp,sl)) h1 (by show sp<_;omega) h3 (by show sl<_;omega);have Ac:∀b,(addN q.N par (q.next+1) b sp sl).length<=65536:=fun b=>by
  unfold addN mapE;rw[Z9V,J0S,J3d];omega
 have hn:∀b,NOk (addN q.N par (q.next+1) b sp sl) (q.next+1):=fun b=>ok.n.add b Bm ((Q5d ok.n).1 Aq) h1 h2 h3 h4
 rcases Bm with rfl|⟨e,hf⟩
 ·refine(Z2Z h ok hp Aq).mono ?_;rintro r w'⟨rfl,st⟩;have eN:=Z3a ok (w.heap.size+1) sp sl;refine⟨rfl,q.app (w.heap.size+1) ⟨sp,sl,0,[]⟩,⟨rfl,rfl,rfl,⟨_,eN⟩,rfl,⟨by rw[eN];exact hn _,hlim,fun c hc=>?_,by rw[eN];exact Ac _⟩⟩,st⟩;rcases Z9Y.1 (show c∈q.N++[_] from hc) with hc|hc
  ·have:=ok.n.rng c hc;have hk:(q.app (w.heap.size+1) ⟨sp,sl,0,[]⟩).kr c.id=q.kr c.id:=if_neg (by omega);rw[hk];exact ok.rv c hc
  ·rw[J1q] at hc;subst hc;have hk:(q.app (w.heap.size+1) ⟨sp,sl,0,[]⟩).kr (q.next+1)=none:=if_pos rfl;show rvOk ((q.app (w.heap.size+1) ⟨sp,sl,0,[]⟩).kr (q.next+1)) 0;rw[hk];rfl
 ·refine(Z5z h ok hf hp Aq).mono ?_;rintro r w'⟨rfl,rv,AA,st⟩;have eN:=Z5A ok hf (w.heap.size+1) sp sl rv;obtain⟨he,hid⟩:=Q0e hf;have hr:=ok.n.rng e he;refine⟨rfl,(q.app (w.heap.size+1) ⟨sp,sl,par,[]⟩).setN par {e.q with ks:=e.q.ks++[q.next+1]} rv,⟨rfl,rfl,rfl,⟨_,eN⟩,rfl,⟨by rw[eN];exact hn _,hlim,fun c hc=>?_,by rw[eN];exact Ac _⟩⟩,st⟩;obtain⟨d,hd,rfl⟩:=Q1k (show c∈mapE _ (q.N++[_]) from hc);by_cases D0:d.id=par
  ·have hk:((q.app (w.heap.size+1) ⟨sp,sl,par,[]⟩).setN par {e.q with ks:=e.q.ks++[q.next+1]} rv).kr d.id=rv:=if_pos D0;show rvOk (((q.app (w.heap.size+1) ⟨sp,sl,par,[]⟩).setN par {e.q with ks:=e.q.ks++[q.next+1]} rv).kr d.id) (if d.id=par then({e.q with ks:=e.q.ks++[q.next+1]}:Nd) else d.q).ks.length;rw[hk,if_pos D0]
   simpa using AA
  ·have hk:((q.app (w.heap.size+1) ⟨sp,sl,par,[]⟩).setN par {e.q with ks:=e.q.ks++[q.next+1]} rv).kr d.id=(q.app (w.heap.size+1) ⟨sp,sl,par,[]⟩).kr d.id:=if_neg D0;show rvOk (((q.app (w.heap.size+1) ⟨sp,sl,par,[]⟩).setN par {e.q with ks:=e.q.ks++[q.next+1]} rv).kr d.id) (if d.id=par then({e.q with ks:=e.q.ks++[q.next+1]}:Nd) else d.q).ks.length;rw[hk,if_neg D0];rcases Z9Y.1 hd with hd|hd
   ·have:=ok.n.rng d hd;have An:(q.app (w.heap.size+1) ⟨sp,sl,par,[]⟩).kr d.id=q.kr d.id:=if_neg (by omega);rw[An];exact ok.rv d hd
   ·rw[J1q] at hd;subst hd;have An:(q.app (w.heap.size+1) ⟨sp,sl,par,[]⟩).kr (q.next+1)=none:=if_pos rfl;show rvOk ((q.app (w.heap.size+1) ⟨sp,sl,par,[]⟩).kr (q.next+1)) 0;rw[An];rfl
structure Alt0(S S':CO):Prop where
 c:S'.c=S.c
 t:S'.t=S.t
 l:S'.l=S.l
 g:S'.g=S.g
 per:S'.period=S.period
 now:S'.now=S.now
 rv:S'.rv=S.rv
 ts:S'.ts=S.ts
 same:SameP S.P S'.P
 next:S'.P.q.next=S.P.q.next
 acc:∀id e,find S.P.q.E id=some e->∃e',find S'.P.q.E id=some e'/\e'.q={e.q with charged:=e'.q.charged}
 ids:S'.P.q.E.map En.id=S.P.q.E.map En.id
 kept:∀r∈S.l,r.is=true->r.kind≠2->Kept S.P.a.mem S'.P.a.mem r.at_ (costK r.kind)
theorem Alt.alt0{S S':CO}{own:Int}(h:Alt S S' own):Alt0 S S':=⟨h.c,h.t,h.l,h.g,h.per,h.now,h.rv,h.ts,h.same,h.next,fun id e he=>by
 obtain⟨e',a,b,_⟩:=h.acc id e he;exact⟨e',a,b⟩,h.ids,h.kept⟩
theorem Alt0.trans{S S1 S2:CO}(h:Alt0 S S1)(k:Alt0 S1 S2):Alt0 S S2:=by
 refine⟨k.c.trans h.c,k.t.trans h.t,k.l.trans h.l,k.g.trans h.g,k.per.trans h.per,k.now.trans h.now,k.rv.trans h.rv,k.ts.trans h.ts,h.same.trans k.same,k.next.trans h.next,fun id e he=>?_,k.ids.trans h.ids,fun r hr hi hk=>?_⟩
 ·obtain⟨e1,a1,a2⟩:=h.acc id e he;obtain⟨e2,b1,b2⟩:=k.acc id e1 a1;refine⟨e2,b1,?_⟩;rw[b2,a2]
 ·exact(h.kept r hr hi hk).trans (k.kept r (by rw[h.l];exact hr) hi hk)
structure SP where
 s:Nat
 S:CO
 tb:Nat->TB
 F:FO
def SP.head(Z:SP):Nat×(Obj->Prop):=(Z.s,isC 183 [ptr Z.S.c,ptr Z.F.f])
def SP.hl(Z:SP):HL:=Z.head::(Z.S.hl++Z.F.hl)
structure SP.Ok(Z:SP)(fr:List Nat)(N K:Nat)(M:Int):Prop where
 core:Z.S.Ok fr N K
 tpi:TPI Z.S Z.tb
 fpi:FPI Z.S.l Z.tb Z.F.N
 fo:Z.F.Ok
 next:Z.F.next<=M
def SP.av(Z:SP):AV:=avOf Z.S.l Z.tb Z.F.N
structure SameN(Z Z':SP):Prop where
 s:Z'.s=Z.s
 alt:Alt0 Z.S Z'.S
 f:Z'.F.f=Z.F.f
theorem SameN.trans{Z Z1 Z2:SP}(h:SameN Z Z1)(k:SameN Z1 Z2):SameN Z Z2:=⟨k.s.trans h.s,h.alt.trans k.alt,k.f.trans h.f⟩
structure Z7L(Z Z':SP):Prop extends SameN Z Z' where
 nx:Z'.F.next=Z.F.next
def SP.setS(Z:SP)(S:CO)(tb:Nat->TB):SP:={Z with S:=S,tb:=tb}
def SP.setF(Z:SP)(F:FO):SP:={Z with F:=F}
theorem SP.permS(Z:SP):Z.hl.Perm (Z.S.hl++(Z.head::Z.F.hl)):=by
 unfold SP.hl;exact J2K.symm
theorem SP.permF(Z:SP):Z.hl.Perm (Z.F.hl++(Z.head::Z.S.hl)):=by
 unfold SP.hl;refine(List.Perm.cons _ J1X).trans ?_;exact J2K.symm
section
variable {w:World} {Z:SP}
theorem SP.sS(h:Sep w Z.hl):Sep w Z.S.hl:=h.part Z.permS
theorem SP.sF(h:Sep w Z.hl):Sep w Z.F.hl:=h.part Z.permF
theorem SP.cells(h:Sep w Z.hl):Cells w Z.s 183 [ptr Z.S.c,ptr Z.F.f]:=h.cells (by simp[SP.hl,SP.head])
theorem SP.c0(h:Sep w Z.hl):w.cell? ⟨Z.s,0,none⟩=some (.pointer (some ⟨Z.S.c,0,none⟩)):=(SP.cells h).cell 0 _ rfl
theorem SP.c1(h:Sep w Z.hl):w.cell? ⟨Z.s,1,none⟩=some (.pointer (some ⟨Z.F.f,0,none⟩)):=(SP.cells h).cell 1 _ rfl
end
theorem SP.stepS{w w':World}{Z:SP}(h:Sep w Z.hl)(S':CO)(tb':Nat->TB)(e:S'.c=Z.S.c)(s:Step Z.S.hl S'.hl w w'):Step Z.hl (Z.setS S' tb').hl w w':=by
 have hp:=(Z.setS S' tb').permS;have e1:(Z.setS S' tb').head=Z.head:=by unfold SP.head SP.setS;rw[e]
 rw[e1] at hp;exact Step.lift Z.permS hp h s
theorem SP.stepF{w w':World}{Z:SP}(h:Sep w Z.hl)(F':FO)(e:F'.f=Z.F.f)(s:Step Z.F.hl F'.hl w w'):Step Z.hl (Z.setF F').hl w w':=by
 have hp:=(Z.setF F').permF;have e1:(Z.setF F').head=Z.head:=by unfold SP.head SP.setF;rw[e]
 rw[e1] at hp;exact Step.lift Z.permF hp h s
theorem SP.Ok.mono{Z:SP}{fr:List Nat}{N N' K K':Nat}{M M':Int}(ok:Z.Ok fr N K M)(h1:N<=N')(h2:K<=K')(h3:M<=M'):Z.Ok fr N' K' M':=⟨ok.core.mono h1 h2,ok.tpi,ok.fpi,ok.fo,by have:=ok.next;omega⟩
theorem FPI.task{l:List Pl}{tb:Nat->TB}{N:List (En Nd)}(f:FPI l tb N){next:Int}(ok:NOk N next){n:En Nd}(hn:n∈N):∃(h s:Nat) (p:Pl) (e:Ent),n.q.sp=(h:Int)/\n.q.sl=(s:Int)/\h<4294967296/\s<256/\pget l 1 h=some p/\p.kind=2/\(tb (h%256)).en s=some e/\Q0k l tb h s=some e:=by
 obtain⟨e,he⟩:=f.is n hn;have hs:=ok.sm n hn;unfold Q1q at he;obtain⟨p,p1,p2,p3,p4⟩:=Z0z he;exact⟨n.q.sp.toNat,n.q.sl.toNat,p,e,by omega,by omega,by omega,p3,p1,p2,p4,he⟩
theorem FPI.own{l:List Pl}{tb:Nat->TB}{N:List (En Nd)}(f:FPI l tb N){next:Int}(ok:NOk N next){h s:Nat}{e:Ent}(he:Q0k l tb h s=some e):∃n∈N,n.q.sp=(h:Int)/\n.q.sl=(s:Int)/\ownN N (h:Int) (s:Int)=n.id/\find N n.id=some n:=by
 obtain⟨n,h1,h2,h3⟩:=f.has h s e he;refine⟨n,h1,h2,h3,?_,Q0s ok.ids h1⟩;rw[<- h2,<- h3];exact Z2X ok h1
theorem FPI.free{l:List Pl}{tb:Nat->TB}{N:List (En Nd)}(f:FPI l tb N){next:Int}(ok:NOk N next){h s:Nat}(he:Q0k l tb h s=none):ownN N (h:Int) (s:Int)=0:=by
 refine(Q5d ok).2 fun n hn hx=>?_
 obtain⟨e,h2⟩:=f.is n hn;simp only[Prod.mk.injEq] at hx;unfold Q1q at h2;rw[hx.1,hx.2,J0o,J0o,he] at h2;cases h2
theorem FPI.few{l:List Pl}{tb:Nat->TB}{N:List (En Nd)}(f:FPI l tb N){next:Int}(ok:NOk N next){h s:Nat}{p:Pl}(hp:pget l 1 h=some p)(hs:s<256)(he:Q0k l tb h s=none):N.length<65536:=by
 have key:∀n∈N,∃p s,pget l 1 n.q.sp.toNat=some p/\n.q.sl=((s:Nat):Int)/\s<256:=fun n hn=>by
  obtain⟨h',s',p',e',h1,h2,_,h3,h4,_⟩:=f.task ok hn;exact⟨p',s',by rw[h1,J0o];exact h4,h2,h3⟩
 have MO:∀n∈N,n.q.sp.toNat%256*256+n.q.sl.toNat<65536:=fun n hn=>by
  obtain⟨p',s',_,h2,h3⟩:=key n hn;omega
 have inj:∀a∈N,∀b∈N,a.q.sp.toNat%256*256+a.q.sl.toNat=b.q.sp.toNat%256*256+b.q.sl.toNat->a=b:=fun a ha b hb hc=>by
  obtain⟨pa,sa,a1,a2,a3⟩:=key a ha;obtain⟨pb,sb,b1,b2,b3⟩:=key b hb;have e1:a.q.sp.toNat%256=b.q.sp.toNat%256:=by omega
  obtain⟨e2,_,_⟩:=Q4D a1 b1 e1;have E4:=ok.sm a ha;have Al:=ok.sm b hb;exact Q8s ok ha hb (by omega) (by omega)
 have nd:(N.map fun n=>n.q.sp.toNat%256*256+n.q.sl.toNat).Nodup:=by
  refine Z9T.2 ?_;refine(List.Pairwise.and_mem.1 ok.ids).imp ?_;rintro a b⟨ha,hb,DI⟩ hc;exact DI (by rw[inj a ha b hb hc])
 have EN:h%256*256+s∉N.map fun n=>n.q.sp.toNat%256*256+n.q.sl.toNat:=fun hm=>by
  obtain⟨n,hn,hc⟩:=Z9y.1 hm;obtain⟨p',s',h1,h2,h3⟩:=key n hn;have e1:n.q.sp.toNat%256=h%256:=by omega
  obtain⟨e2,_,_⟩:=Q4D h1 hp e1;obtain⟨e,h4⟩:=f.is n hn;unfold Q1q at h4;rw[e2,show n.q.sl.toNat=s by omega,he] at h4;cases h4
 have MD:∀B,(∀x∈(h%256*256+s)::N.map fun n=>n.q.sp.toNat%256*256+n.q.sl.toNat,x<B)->((h%256*256+s)::N.map fun n=>n.q.sp.toNat%256*256+n.q.sl.toNat).length<=B:=fun B hB=>Q6U B _ (J0f.2 ⟨EN,nd⟩) hB
 have:=MD 65536 fun x hx=>by
  rcases Z9x.1 hx with rfl|hx
  ·omega
  ·obtain⟨n,hn,rfl⟩:=Z9y.1 hx;exact MO n hn
 rw[Z9W,J0S] at this;omega
end Go.Proofs.YtfidemmgofcnmaaGreatDoor
