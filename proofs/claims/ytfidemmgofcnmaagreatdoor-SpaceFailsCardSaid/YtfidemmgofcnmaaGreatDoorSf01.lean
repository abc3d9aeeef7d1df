/- SpaceFails returns true at every input. No condition. Part of its proof. -/
import Derived.Test.YtfidemmgofcnmaaGreatDoorRows
import Derived.WalkKit
import Derived.WalkSpells
import Derived.WalkLawsBesides
import Derived.OneCell
import Derived.Laws.MakeOwn
set_option linter.unusedVariables false
namespace Go.Proofs.YtfidemmgofcnmaaGreatDoor
open Go.RowKit Go.Proofs.Tryz
abbrev J3a:=@Array.getElem?_modify
abbrev J3b:=@Nat.le_refl
abbrev J3c:=@Nat.le_trans
abbrev J3d:=@Nat.lt_of_lt_of_le
abbrev J3e:=@List.map_cons
abbrev J3f:=@List.cons.injEq
abbrev J3g:=@List.mem_cons
abbrev J3h:=@List.mem_map
abbrev J3i:=@List.eq_replicate_iff
abbrev J3j:=@List.eq_of_mem_replicate
abbrev J3k:=@Nat.add_zero
abbrev J3l:=@List.length_replicate
abbrev J3m:=@List.range_succ
abbrev J3n:=@List.filterMap_append
abbrev J3o:=@List.filterMap_cons
abbrev J3p:=@List.length_filterMap_le
abbrev J3q:=@Option.some.injEq
abbrev J3r:=@List.mem_filterMap
abbrev J3s:=@List.mem_range
abbrev J3t:=@List.getElem?_eq_some_iff
abbrev J3u:=@List.pairwise_filterMap
abbrev J3v:=@List.pairwise_lt_range
abbrev J3w:=@List.mem_filter
abbrev J3x:=@Bool.and_eq_true
abbrev J3y:=@List.not_mem_nil
abbrev J3z:=@List.flatMap_cons
abbrev J3A:=@Nat.le_zero
abbrev J3B:=@List.mem_reverse
abbrev J3C:=@List.mem_flatMap
abbrev J3D:=@List.pairwise_cons
abbrev J3E:=@List.pairwise_flatMap
abbrev J3F:=@List.pairwise_reverse
abbrev J3G:=@List.mem_of_mem_erase
abbrev J3H:=@List.pairwise_map
abbrev J3I:=@List.reverse_append
abbrev J3J:=@List.reverse_singleton
abbrev J3K:=@List.flatMap_append
abbrev J3L:=@List.flatMap_singleton
abbrev J3M:=@List.length_append
abbrev J3N:=@List.length_cons
abbrev J3O:=@List.reverse_reverse
abbrev J3P:=@List.pairwise_append
abbrev J3Q:=@List.mem_append
abbrev J3R:=@List.sublist_append_left
abbrev J3S:=@List.sublist_append_right
abbrev J3T:=@List.sublist_cons_self
abbrev J3U:=@List.mem_map_of_mem
abbrev J3V:=@List.nodup_append
abbrev J3W:=@List.mem_append_right
abbrev J3X:=@List.mem_append_left
abbrev J3Y:=@List.nodup_cons
abbrev J3Z:=@Option.some.inj
abbrev J4a:=@List.getElem_cons_drop
abbrev J4b:=@List.take_append_drop
abbrev J4c:=@List.append_assoc
abbrev J4d:=@List.take_set_of_le
abbrev J4e:=@List.drop_set_of_lt
abbrev J4f:=@Nat.mul_le_mul
abbrev J4g:=@Int.natCast_mul
abbrev J4h:=@Int.toNat_natCast
abbrev J4i:=@Nat.mul_one
abbrev J4j:=@Bool.toNat_le
abbrev J4k:=@Nat.pow_succ
abbrev J4l:=@Nat.add_comm
abbrev J4m:=@Nat.testBit_two_pow_mul_add
abbrev J4n:=@Nat.testBit_lt_two_pow
abbrev J4o:=@Nat.lt_of_le_of_lt
abbrev J4p:=@Nat.eq_of_testBit_eq
abbrev J4q:=@Nat.pow_le_pow_right
abbrev J4r:=@Nat.two_pow_pos
abbrev J4s:=@Bool.true_and
abbrev J4t:=@Nat.xor_lt_two_pow
abbrev J4u:=@Nat.pow_lt_pow_right
abbrev J4v:=@Nat.testBit_xor
abbrev J4w:=@Nat.testBit_two_pow
abbrev J4x:=@Nat.mod_eq_of_lt
abbrev J4y:=@Nat.testBit_two_pow_mul
abbrev J4z:=@Nat.testBit_zero
abbrev J4A:=@Nat.testBit_and
abbrev J4B:=@Nat.and_lt_two_pow
abbrev J4C:=@Nat.add_assoc
abbrev J4D:=@Nat.pow_add
abbrev J4E:=@Nat.div_div_eq_div_mul
abbrev J4F:=@Nat.and_le_right
abbrev J4G:=@Int.eq_ofNat_of_zero_le
abbrev J4H:=@Nat.and_two_pow_sub_one_eq_mod
abbrev J4I:=@Nat.div_le_self
abbrev J4J:=@List.getElem?_set
abbrev J4K:=@List.ext_getElem?
abbrev J4L:=@List.length_map
abbrev J4M:=@List.length_range
abbrev J4N:=@List.getElem?_map
abbrev J4O:=@List.length_set
abbrev J4P:=@List.getElem?_range
abbrev J4Q:=@Option.map_some
abbrev J4R:=@List.getElem?_eq_none
abbrev J4S:=@Int.tdiv_eq_ediv_of_nonneg
abbrev J4T:=@Int.tmod_eq_emod_of_nonneg
abbrev J4U:=@List.find?_range_eq_some
abbrev J4V:=@List.find?_eq_none
abbrev J4W:=@Int.natCast_ediv
abbrev J4X:=@Int.natCast_pow
abbrev J4Y:=@List.take_add_one
abbrev J4Z:=@List.filter_append
abbrev J5a:=@List.take_of_length_le
abbrev J5b:=@List.length_eq_zero_iff
abbrev J5c:=@List.filter_eq_nil_iff
abbrev J5d:=@List.getElem?_replicate
abbrev J5e:=@Nat.zero_le
abbrev J5f:=@List.getElem?_take
abbrev J5g:=@List.Sublist.append
abbrev J5h:=@List.Sublist.refl
abbrev J5i:=@List.append_nil
abbrev J5j:=@List.mem_singleton
abbrev J5k:=@List.map_map
abbrev J5l:=@List.map_congr_left
abbrev J5m:=@List.nil_append
abbrev J5n:=@List.cons_append
abbrev J5o:=@List.filter_cons_of_pos
abbrev J5p:=@List.filter_cons_of_neg
abbrev J5q:=@List.mem_of_getElem?
abbrev J5r:=@List.length_filter_le
abbrev J5s:=@List.eq_nil_of_length_eq_zero
abbrev J5t:=@List.getElem?_eq_getElem
abbrev J5u:=@List.length_drop
abbrev J5v:=@List.length_take
abbrev J5w:=@List.take_append_of_le_length
abbrev J5x:=@List.take_take
abbrev J5y:=@List.drop_append_of_le_length
abbrev J5z:=@List.drop_eq_nil_of_le
abbrev J5A:=@List.take_left
abbrev J5B:=@List.length_nil
abbrev J5C:=@Array.getElem?_toList
abbrev J5D:=@Nat.min_def
abbrev J5E:=@List.getElem?_drop
abbrev J5F:=@List.mem_of_mem_drop
abbrev J5G:=@Nat.zero_add
abbrev J5H:=@List.size_toArray
abbrev J5I:=@List.map_nil
abbrev J5J:=@List.mem_or_eq_of_mem_set
abbrev J5K:=@Nat.lt_or_ge
abbrev J5L:=@List.eraseIdx_sublist
abbrev J5M:=@List.set_cons_succ
abbrev J5N:=@List.set_cons_zero
abbrev J5O:=@List.Perm.append_right
abbrev J5P:=@List.perm_append_comm
abbrev J5Q:=@List.mem_iff_getElem?
abbrev J5R:=@List.Perm.append_left
abbrev J5S:=@List.filter_congr
abbrev J5T:=@List.set_set
abbrev J5U:=@Option.getD_some
abbrev J5V:=@List.drop_eq_getElem_cons
abbrev J5W:=@List.eraseIdx_eq_take_drop_succ
abbrev J5X:=@List.append_eq_nil_iff
abbrev J5Y:=@Nat.mul_le_mul_right
abbrev J5Z:=@Nat.add_mul
abbrev J6a:=@Nat.add_sub_cancel_left
abbrev J6b:=@Nat.mul_div_cancel
abbrev J6c:=@Nat.mul_comm
abbrev J6d:=@Nat.lt_trichotomy
abbrev J6e:=@List.pairwise_iff_getElem
abbrev J6f:=@Option.isSome_none
abbrev J6g:=@Nat.div_le_div_left
abbrev J6h:=@List.all_eq_true
abbrev J6i:=@Nat.mod_lt
abbrev J6j:=@Nat.add_mul_div_right
abbrev J6k:=@Bool.eq_iff_iff
abbrev J6l:=@Bool.not_eq_true'
abbrev J6m:=@Bool.false_or
abbrev J6n:=@Nat.pow_succ'
abbrev J6o:=@Bool.or_eq_true
abbrev J6p:=@List.getElem?_cons_succ
abbrev J6q:=@List.getElem?_append_left
abbrev J6r:=@List.getElem?_append_right
abbrev J6s:=@Nat.mul_assoc
abbrev J6t:=@Nat.mul_lt_mul_of_pos_right
abbrev J6u:=@Nat.sub_self
abbrev J6v:=@Nat.div_lt_iff_lt_mul
abbrev J6w:=@List.Perm.refl
abbrev J6x:=@Nat.two_pow_add_eq_or_of_lt
abbrev J6y:=@List.mem_of_mem_take
abbrev J6z:=@List.getElem_mem
abbrev J6A:=@List.take_replicate
abbrev J6B:=@Nat.min_eq_left
abbrev J6C:=@List.take_zero
abbrev J6D:=@List.count_append
abbrev J6E:=@List.count_cons
abbrev J6F:=@Nat.not_lt_zero
abbrev J6G:=@List.map_append
abbrev J6H:=@List.perm_middle
abbrev J6I:=@Option.isSome_iff_exists
abbrev J6J:=@List.perm_append_singleton
abbrev J6K:=@List.getElem?_set_ne
abbrev J6L:=@Int.add_sub_cancel
abbrev J6M:=@List.Pairwise.imp_of_mem
abbrev J6N:=@List.filterMap_cons_none
abbrev J6O:=@List.filterMap_cons_some
abbrev J6P:=@List.sum_cons
abbrev J6Q:=@List.Perm.cons_inv
abbrev J6R:=@List.sum_append
abbrev J6S:=@List.getElem?_set_self
abbrev J6T:=@Nat.zero_mul
abbrev J6U:=@List.set_append_right
abbrev J6V:=@Bool.false_eq_true
abbrev J6W:=@List.drop_zero
abbrev J6X:=@List.nodup_range
abbrev J6Y:=@List.takeWhile_append_dropWhile
abbrev J6Z:=@List.dropWhile_sublist
abbrev J7a:=@Option.map_eq_some_iff
abbrev J7b:=@Option.toList_some
abbrev J7c:=@Option.toList_none
abbrev J7d:=@List.eq_nil_iff_forall_not_mem
abbrev J7e:=@List.length_singleton
abbrev J7f:=@List.flatMap_nil
abbrev J7g:=@List.nodup_nil
abbrev J7h:=@Int.le_refl
abbrev J7i:=@List.append_of_mem
abbrev J7j:=@List.flatMap_def
abbrev J7k:=@List.filter_eq_self
abbrev J7l:=@List.eraseIdx_cons_succ
abbrev J7m:=@List.take_length
abbrev J7n:=@List.getElem_range
abbrev J7o:=@Nat.eq_of_mul_eq_mul_right
abbrev J7p:=@List.filter_cons
abbrev J7q:=@List.mem_of_find?_eq_some
abbrev J7r:=@List.find?_some
abbrev J7s:=@List.Nodup.length_le_of_subset
abbrev J7t:=@Option.ne_none_iff_exists'
abbrev J7u:=@List.take_succ_eq_append_getElem
abbrev J7v:=@Nat.le_succ
abbrev J7w:=@List.mem_cons_of_mem
abbrev J7x:=@List.getElem?_take_of_lt
abbrev J7y:=@List.getElem?_take_eq_none
abbrev J7z:=@Array.getElem?_eq_some_iff
abbrev J7A:=@List.length_reverse
abbrev J7B:=@List.eq_nil_or_concat
abbrev J7C:=@List.concat_eq_append
abbrev J7D:=@List.take_succ_cons
abbrev J7E:=@List.drop_succ_cons
abbrev J7F:=@Bool.false_and
abbrev J7G:=@List.any_eq_false
abbrev J7H:=@List.getD_eq_getElem?_getD
def Cells(w:World)(b:Nat)(T:TypeId)(cs:List Value):Prop:=w.heap[b]?=some (.cells cs.toArray T (0,0))
theorem Cells.lt{w:World}{b:Nat}{T:TypeId}{cs:List Value}(h:Cells w b T cs):b<w.heap.size:=lt_of_block h
theorem Cells.cell{w:World}{b:Nat}{T:TypeId}{cs:List Value}(h:Cells w b T cs)(i:Nat)(v:Value)(hi:cs[i]?=some v):w.cell? ⟨b,i,none⟩=some v:=by
 unfold Cells at h;simp[World.cell?,h,hi]
theorem Cells.free{w:World}{b:Nat}{T:TypeId}{cs:List Value}(h:Cells w b T cs)(i:Nat):w.frozen? ⟨b,i,none⟩=false:=by
 unfold Cells at h;simp[World.frozen?,h]
theorem Cells.set{w:World}{b:Nat}{T:TypeId}{cs:List Value}(h:Cells w b T cs)(i:Nat)(v:Value):Cells (w.setCell ⟨b,i,none⟩ v) b T (cs.set i v):=by
 unfold Cells at h ⊢;simp[World.setCell,Array.getElem?_modify,h]
theorem Cells.alloc{w:World}{b:Nat}{T:TypeId}{cs:List Value}(h:Cells w b T cs)(o:Obj):Cells (w.alloc o) b T cs:=by
 have:=h.lt;unfold Cells at h ⊢;rw[Below.heap_alloc _ _ _ this];exact h
theorem Cells.same{w w':World}{b:Nat}{T:TypeId}{cs:List Value}(h:Cells w b T cs)(e:w'.heap[b]?=w.heap[b]?):Cells w' b T cs:=e.trans h
theorem Cells.new(w:World)(T:TypeId)(cs:List Value):Cells (w.alloc (.cells cs.toArray T)) w.heap.size T cs:=by
 unfold Cells;show(w.heap.push _)[w.heap.size]?=_;simp
def KvOf(es:Array MapEntry)(Ah:Nat)(kv:List (Value×Value)):Prop:=Go.MapKept.Stamped es Ah/\es.toList.map (fun e=>(e.key,e.val))=kv
def MapIs(w:World)(m:Nat)(kv:List (Value×Value)):Prop:=∃es Ah,w.heap[m]?=some (.map es Ah)/\KvOf es Ah kv
theorem MapIs.lt{w:World}{m:Nat}{kv:List (Value×Value)}(h:MapIs w m kv):m<w.heap.size:=by
 obtain⟨es,Ah,h,_⟩:=h;exact lt_of_block h
theorem MapIs.same{w w':World}{m:Nat}{kv:List (Value×Value)}(h:MapIs w m kv)(e:w'.heap[m]?=w.heap[m]?):MapIs w' m kv:=by
 obtain⟨es,Ah,h,r⟩:=h;exact⟨es,Ah,e.trans h,r⟩
theorem MapIs.set{w:World}{m:Nat}{kv:List (Value×Value)}(h:MapIs w m kv)(a:Addr)(v:Value):MapIs (w.setCell a v) m kv:=by
 obtain⟨es,Ah,h,r⟩:=h;refine⟨es,Ah,?_,r⟩;by_cases e:m=a.block
 ·subst e;simp[World.setCell,Array.getElem?_modify,h]
 ·rw[Below.heap_setCell _ _ _ _ e];exact h
theorem MapIs.alloc{w:World}{m:Nat}{kv:List (Value×Value)}(h:MapIs w m kv)(o:Obj):MapIs (w.alloc o) m kv:=by
 have:=h.lt;exact h.same (Below.heap_alloc _ _ _ this)
theorem MapIs.new(w:World):MapIs (w.alloc (.map #[] 0)) w.heap.size []:=by
 refine⟨#[],0,?_,Go.MapKept.stamped_empty 0,rfl⟩;show(w.heap.push _)[w.heap.size]?=_;simp
structure Chg(F:Nat->Prop)(w w':World):Prop where
 os:w'.os=w.os
 tape:w'.tape=w.tape
 output:w'.output=w.output
 size:w.heap.size<=w'.heap.size
 block:∀k,k<w.heap.size->¬F k->w'.heap[k]?=w.heap[k]?
theorem Chg.refl(F:Nat->Prop)(w:World):Chg F w w:=⟨rfl,rfl,rfl,J3b _,fun _ _ _=>rfl⟩
theorem Chg.trans{F F':Nat->Prop}{a b c:World}(h:Chg F a b)(k:Chg F' b c)(hF:∀i,F' i->F i∨a.heap.size<=i):Chg F a c:=
 ⟨k.os.trans h.os,k.tape.trans h.tape,k.output.trans h.output,J3c h.size k.size,fun i hi hn =>
  (k.block i (J3d hi h.size) (fun h'=>by rcases hF i h' with h'|h';exact hn h';omega)).trans (h.block i hi hn)⟩
theorem Chg.mono{F F':Nat->Prop}{a b:World}(h:Chg F a b)(hF:∀i,F i->F' i∨a.heap.size<=i):Chg F' a b:=
 ⟨h.os,h.tape,h.output,h.size,fun i hi hn=>h.block i hi (fun h'=>by rcases hF i h' with h'|h';exact hn h';omega)⟩
theorem Chg.drew{F:Nat->Prop}{a w:World}(h:Chg F a w):Chg F a w.drew:=⟨h.os,h.tape,h.output,h.size,h.block⟩
theorem Chg.alloc{F:Nat->Prop}{a w:World}(h:Chg F a w)(o:Obj):Chg F a (w.alloc o):=by
 have hs:=h.size;exact⟨h.os,h.tape,h.output,by simp;omega,fun i hi hn=>(Below.heap_alloc _ _ _ (by omega)).trans (h.block i hi hn)⟩
theorem Chg.set{F:Nat->Prop}{a w:World}(h:Chg F a w)(p:Addr)(u:Value)(hp:F p.block∨a.heap.size<=p.block):Chg F a (w.setCell p u):=by
 have hs:=h.size;refine⟨h.os,h.tape,h.output,by simp[World.setCell];omega,fun i hi hn=>(Below.heap_setCell _ _ _ _ ?_).trans (h.block i hi hn)⟩;rintro rfl;rcases hp with hp|hp
 ·exact hn hp
 ·omega
theorem Chg.below{F:Nat->Prop}{a b:World}{B:Nat}(h:Chg F a b)(hB:B<=a.heap.size)(hF:∀i,F i->B<=i):Below B a b:=
 ⟨h.os,h.tape,h.output,h.size,fun i hi=>h.block i (by omega) (fun h'=>by have:=hF i h';omega)⟩
def look:List (Int×Value)->Int->Option Value
 | [],_=>none
 | p::r,id=>if id=p.1 then some p.2 else look r id
def put:List (Int×Value)->Int->Value->List (Int×Value)
 | [],id,v=>[(id,v)]
 | p::r,id,v=>if id=p.1 then(p.1,v)::r else p::put r id v
def del:List (Int×Value)->Int->List (Int×Value)
 | [],_=>[]
 | p::r,id=>if id=p.1 then r else p::del r id
def Q0x(w:World)(m:Nat)(kv:List (Int×Value)):Prop:=MapIs w m (kv.map fun p=>(.int .i64 p.1,p.2))
theorem Q2q(id:Int):∀(es:List MapEntry) (kv:List (Int×Value)) (i:Nat),es.map (fun e=>(e.key,e.val))=kv.map (fun p=>(Value.int .i64 p.1,p.2)) ->
  (look kv id=none/\Instr.findNow (.int .i64) (.int .i64 id) es i=some none) ∨
  (∃j v,look kv id=some v/\Instr.findNow (.int .i64) (.int .i64 id) es i=some (some (i+j,v))/\j<es.length/\(es[j]?).map (·.key)=some (.int .i64 id) /\
   (∀u,(es.modify j fun e=>{e with key:=.int .i64 id,val:=u}).map (fun e=>(e.key,e.val))=(put kv id u).map (fun p=>(Value.int .i64 p.1,p.2))) /\
   (es.eraseIdx j).map (fun e=>(e.key,e.val))=(del kv id).map (fun p=>(Value.int .i64 p.1,p.2)))
 | [],kv,i,h=>by
  cases kv with
  | nil=>left;simp[look,Instr.findNow]
  | cons p r=>simp at h
 | e::es,kv,i,h=>by
  cases kv with
  | nil=>simp at h
  | cons p r =>
   simp only[J3e,J3f,Prod.mk.injEq] at h;obtain⟨⟨hk,hv⟩,hr⟩:=h;by_cases C3:id=p.1
   ·right;refine⟨0,p.2,by simp[look,C3],by simp[Instr.findNow,hk,Instr.sameNow,C3,hv],by simp,by simp[hk,C3],?_,?_⟩
    ·intro u;simp[put,C3,hr]
    ·simp[del,C3,hr]
   ·have h1:(id==p.1)=false:=by simpa using C3
    rcases Q2q id es r (i+1) hr with ⟨hl,hf⟩|⟨j,v,hl,hf,hj,DO,BC,K9⟩
    ·left;exact⟨by simp[look,C3,hl],by simp[Instr.findNow,hk,Instr.sameNow,h1,hf]⟩
    ·right;refine⟨j+1,v,by simp[look,C3,hl],?_,by simp;omega,by simpa using DO,?_,?_⟩
     ·simp[Instr.findNow,hk,Instr.sameNow,h1,hf];omega
     ·intro u;simp[put,C3,hk,hv,BC u]
     ·simp[del,C3,hk,hv,K9]
theorem Q5o(id:Int):∀(es:List MapEntry) (kv:List (Int×Value)),es.map (fun e=>(e.key,e.val))=kv.map (fun p=>(Value.int .i64 p.1,p.2))->look kv id=none->∀u,put kv id u=kv++[(id,u)]
 | _,[],_,_,u=>rfl
 | [],_::_,h,_,_=>by simp at h
 | e::es,p::r,h,hl,u=>by
  by_cases C3:id=p.1
  ·simp[look,C3] at hl
  ·simp only[look,C3,if_false] at hl;simp only[J3e,J3f] at h;simp[put,C3,Q5o id es r h.2 hl u]
theorem Z1A:∀(kv:List (Int×Value)) (id:Int),look kv id=none->del kv id=kv
 | [],_,_=>rfl
 | p::r,id,hl=>by
  by_cases C3:id=p.1
  ·simp[look,C3] at hl
  ·simp only[look,C3,if_false] at hl;simp[del,C3,Z1A r id hl]
section
variable {P:Program} {K V:TypeId} {T:TypeId}
theorem Q0D(w:World)(e:Bool)(id:Int)(hK:P.underlying K=some (.int .i64)):(Instr.checkKey e 10000 K (.int .i64 id)).run P w=.ok () w:=by
 unfold Instr.checkKey;simp[run_underlying hK,Result.andThen]
theorem Q0L{w:World}(id:Int)(es:List MapEntry)(r:Option (Nat×Value))(hK:P.underlying K=some (.int .i64))
  (h:Instr.findNow (.int .i64) (.int .i64 id) es 0=some r):(Instr.findKey K (.int .i64 id) es).run P w=.ok r w:=by
 unfold Instr.findKey;simp[run_underlying hK,Result.andThen,h]
theorem Z4z{es:List MapEntry}{kv:List (Int×Value)}(hr:es.map (fun e=>(e.key,e.val))=kv.map (fun p=>(Value.int .i64 p.1,p.2))){id:Int}(hl:look kv id=none):∀x∈es,x.key≠.int .i64 id:=by
 have Aq:∀(l:List (Int×Value)),look l id=none->∀p∈l,p.1≠id:=by
  intro l
  induction l with
  | nil=>intro _ p hp;cases hp
  | cons q r ih =>
   intro h p hp;unfold look at h;split at h
   ·cases h
   ·rename_i Aa;rcases J3g.1 hp with rfl|hp
    ·exact fun e=>Aa e.symm
    ·exact ih h p hp
 intro x hx e;have hm:(x.key,x.val)∈kv.map (fun p=>(Value.int .i64 p.1,p.2)):=by
  rw[<- hr];exact J3h.2 ⟨x,hx,rfl⟩
 obtain⟨p,hp,Ij⟩:=J3h.1 hm;have h1:Value.int .i64 p.1=x.key:=(Prod.mk.injEq _ _ _ _ ▸ Ij).1;rw[e] at h1;exact Aq kv hl p hp (by simpa using h1)
theorem Q1k{w:World}{m:Nat}{kv:List (Int×Value)}(h:Q0x w m kv)(id:Int)(ok:Bool)(z:Value)(hT:P.underlying T=some (.map K V))(hK:P.underlying K=some (.int .i64))
  (hz:(zeroValue V).run P w=.ok z w) :
  (Instr.lookup T (.map (some m)) (.int .i64 id) ok).run P w=.ok (if ok then .tuple #[(look kv id).getD z,.bool (look kv id).isSome] else(look kv id).getD z) w:=by
 obtain⟨es,Ah,hb,hs,hr⟩:=h;unfold Instr.lookup;rcases Q2q id es.toList kv 0 hr with ⟨hl,hf⟩|⟨j,v,hl,hf,_⟩
 ·cases ok <;> simp[run_underlying hT,Result.andThen,Go.MapKept.run_getObj_map hb,Q0D _ _ _ hK,Q0L _ _ _ hK hf,hl,hz]
 ·cases ok <;> simp[run_underlying hT,Result.andThen,Go.MapKept.run_getObj_map hb,Q0D _ _ _ hK,Q0L _ _ _ hK hf,hl]
theorem Q1D{w:World}{m:Nat}{kv:List (Int×Value)}(h:Q0x w m kv)(id:Int)(u:Value)(hT:P.underlying T=some (.map K V))(hK:P.underlying K=some (.int .i64)) :
  ∃w',(Instr.mapUpdate T (.map (some m)) (.int .i64 id) u).run P w=.ok () w'/\Q0x w' m (put kv id u)/\w.grownBy w' (some m):=by
 obtain⟨es,Ah,hb,hs,hr⟩:=h;have C6:∀o,w.grownBy {w with heap:=w.heap.setIfInBounds m o} (some m):=fun o=>⟨rfl,rfl,rfl,by simp,fun k _ Aa=>by
  have:m≠k:=fun e=>Aa (by rw[e])
  simp[this]⟩
 have Ab:=lt_of_block hb;unfold Instr.mapUpdate;rcases Q2q id es.toList kv 0 hr with ⟨hl,hf⟩|⟨j,v,hl,hf,hj,DO,BC,_⟩
 ·refine⟨{w with heap:=w.heap.setIfInBounds m (.map (es.push {key:=.int .i64 id,val:=u,born:=Ah}) (Ah+1))},?_,?_,C6 _⟩
  ·simp[run_underlying hT,Result.andThen,Go.MapKept.run_getObj_map hb,Q0D _ _ _ hK,Q0L _ _ _ hK hf,Go.MapKept.run_setObj_map _ hb]
  ·refine⟨es.push {key:=.int .i64 id,val:=u,born:=Ah},Ah+1,by simp[Ab],Go.MapKept.stamped_push hs (Z4z hr hl),?_⟩;rw[Q5o id es.toList kv hr hl u];simp[hr]
 ·refine⟨{w with heap:=w.heap.setIfInBounds m (.map (es.modify (0+j) fun e=>{e with key:=.int .i64 id,val:=u}) Ah)},?_,?_,C6 _⟩
  ·have A2:((es[0+j]?).map (·.key)).getD (.int .i64 id)=.int .i64 id:=by
    have:(es[0+j]?).map (·.key)=some (.int .i64 id):=by simpa using DO
    rw[this];rfl
   have DB:∀w',(Instr.keyThatStays (.int .i64 id) (.int .i64 id)).run P w'=.ok (.int .i64 id) w':=by
    intro w';simp[Instr.keyThatStays,Instr.sameBits]
   simp only[run_underlying hT,Result.andThen,Go.MapKept.run_getObj_map hb,Q0D _ _ _ hK,Q0L _ _ _ hK hf,Go.MapKept.run_setObj_map _ hb,A2,DB,Sem.run_bind]
  ·refine⟨es.modify (0+j) fun e=>{e with key:=.int .i64 id,val:=u},Ah,by simp[Ab],Go.MapKept.stamped_modify hs (0+j) _ (fun _ _=>rfl) (fun e _ he=>?_),?_⟩
   ·have:(es[0+j]?).map (·.key)=some (.int .i64 id):=by simpa using DO
    rw[he] at this
    simpa using this.symm
   rw[<- BC u];simp
theorem Q3Y{w:World}{m:Nat}{kv:List (Int×Value)}(h:Q0x w m kv)(id:Int)(t1 t2:TypeId)(hT:P.underlying T=some (.map K V))(hK:P.underlying K=some (.int .i64)) :
  ∃w',(Builtin.delete_ #[T,t1] t2 #[.map (some m),.int .i64 id]).run P w=.ok (.tuple #[]) w'/\Q0x w' m (del kv id)/\w.grownBy w' (some m):=by
 obtain⟨es,Ah,hb,hs,hr⟩:=h;have C6:∀o,w.grownBy {w with heap:=w.heap.setIfInBounds m o} (some m):=fun o=>⟨rfl,rfl,rfl,by simp,fun k _ Aa=>by
  have:m≠k:=fun e=>Aa (by rw[e])
  simp[this]⟩
 have Ab:=lt_of_block hb;unfold Builtin.delete_;rcases Q2q id es.toList kv 0 hr with ⟨hl,hf⟩|⟨j,v,hl,hf,hj,DO,_,K9⟩
 ·refine⟨{w with heap:=w.heap.setIfInBounds m (.map es Ah)},?_,?_,C6 _⟩
  ·simp[run_underlying hT,Result.andThen,Go.MapKept.run_getObj_map hb,Q0D _ _ _ hK,Q0L _ _ _ hK hf,Go.MapKept.run_setObj_map _ hb]
  ·refine⟨_,_,by simp[Ab],hs,?_⟩;rw[Z1A kv id hl];exact hr
 ·refine⟨{w with heap:=w.heap.setIfInBounds m (.map (es.eraseIdxIfInBounds (0+j)) Ah)},?_,?_,C6 _⟩
  ·simp[run_underlying hT,Result.andThen,Go.MapKept.run_getObj_map hb,Q0D _ _ _ hK,Q0L _ _ _ hK hf,Go.MapKept.run_setObj_map _ hb]
  ·refine⟨es.eraseIdxIfInBounds (0+j),Ah,by simp[Ab],Go.MapKept.stamped_erase hs _,?_⟩;rw[<- K9];have:j<es.size:=by simpa using hj
   simp[Array.eraseIdxIfInBounds,this]
end
theorem Q8G{w:World}{g:Nat}{T:TypeId}{cs:List Value}(h:Cells w g T cs)(ds:List Value):Cells (w.setRow g ds.toArray) g T ds/\w.grownBy (w.setRow g ds.toArray) (some g):=by
 refine⟨setRow_heap w g _ _ _ _ h,⟨rfl,rfl,rfl,by simp,fun k _ hk=>setRow_other w g k _ (fun e=>hk (by simp[e]))⟩⟩
theorem Q4p{P:Program}(w:World){ops:Array Oper}{rest:List Oper}{o:Oper}{a:Act}{Q:Exit->Act->World->Prop}
  (Im:o.guard=none) (s:Operand) (t e:TypeId) (hop:o.op=.call {callee:=.builtin .clear,args:=#[s],argTypes:=#[t]}) (ht:P.underlying t=some (.slice e))
  (z:Value) (hz:∀w,(zeroValue e).run P w=.ok z w) (hzc:z.cells=#[z]) (h1:z.oneCell'=true)
  (g off n c:Nat) (hs:a.eval s=.slice (some ⟨g,off,none⟩) n c) (hn:0<n) (T:TypeId) (cs:List Value) (hc:Cells w g T cs) (D1:off+n<=cs.length)
  (hK:∀w',Cells w' g T (cs.take off++List.replicate n z++cs.drop (off+n))->w.grownBy w' (some g)->wpList P ops Q rest (a.put o.dst (.tuple #[])) w'):wpList P ops Q (o::rest) a w:=by
 refine wpList_plain Im fun K' hK'=>?_
 have UN:(Builtin.zeroCells #[z] n).toList=List.replicate n z:=by
  simp[Builtin.zeroCells,List.eq_replicate_iff,Nat.mod_one]
 have Ap:=run_storeCells_at P g off T (List.replicate n z) 0 cs.toArray w hc (by simpa using D1) (by intro v hv;rw[J3j hv];exact h1);obtain⟨r1,r2⟩:=Q8G hc (cs.take off++List.replicate n z++cs.drop (off+n));simp only[J3k,J3l] at Ap;obtain⟨m,rfl⟩:∃m,n=m+1:=⟨n-1,by omega⟩
 unfold Oper.wp;simp[execOp,hop,resolve,invoke,builtin,hs,Builtin.clear_,run_underlying ht,hz,hzc,UN,Ap,Result.andThen];exact hK' _ _ (hK _ (by simpa using r1) (by simpa using r2))
theorem Q1X{P:Program}(w:World){ops:Array Oper}{rest:List Oper}{o:Oper}{a:Act}{Q:Exit->Act->World->Prop}
  (hg:o.guard=none) (m k x:Operand) (t K V:TypeId) (hop:o.op=.mapUpdate t m k x) (hT:P.underlying t=some (.map K V)) (hK:P.underlying K=some (.int .i64))
  (b:Nat) (kv:List (Int×Value)) (h:Q0x w b kv) (id:Int) (u:Value) (hm:a.eval m=.map (some b)) (hk:a.eval k=.int .i64 id) (hx:a.eval x=u)
  (hK':∀w',Q0x w' b (put kv id u)->w.grownBy w' (some b)->wpList P ops Q rest (a.put o.dst undef) w'):wpList P ops Q (o::rest) a w:=by
 refine wpList_plain hg fun K' hK''=>?_
 obtain⟨w',Ei,r1,r2⟩:=Q1D (P:=P) h id u hT hK;unfold Oper.wp;simp[execOp,hop,hm,hk,hx,Ei,Result.andThen];exact hK'' _ _ (hK' w' r1 r2)
theorem Q2z{P:Program}(w:World){ops:Array Oper}{rest:List Oper}{o:Oper}{a:Act}{Q:Exit->Act->World->Prop}
  (hg:o.guard=none) (m k:Operand) (t t1 K V:TypeId) (hop:o.op=.call {callee:=.builtin .delete,args:=#[m,k],argTypes:=#[t,t1]}) (hT:P.underlying t=some (.map K V)) (hK:P.underlying K=some (.int .i64))
  (b:Nat) (kv:List (Int×Value)) (h:Q0x w b kv) (id:Int) (hm:a.eval m=.map (some b)) (hk:a.eval k=.int .i64 id)
  (hK':∀w',Q0x w' b (del kv id)->w.grownBy w' (some b)->wpList P ops Q rest (a.put o.dst (.tuple #[])) w'):wpList P ops Q (o::rest) a w:=by
 refine wpList_plain hg fun K' hK''=>?_
 obtain⟨w',Ei,r1,r2⟩:=Q3Y (P:=P) h id t1 o.type hT hK;unfold Oper.wp;simp[execOp,hop,resolve,invoke,builtin,hm,hk,Ei,Result.andThen];exact hK'' _ _ (hK' w' r1 r2)
end Go.Proofs.YtfidemmgofcnmaaGreatDoor
namespace Go.Proofs.YtfidemmgofcnmaaGreatDoor
open Go.Proofs.Tryz
structure Pl where
 kind:Nat
 at_:Nat
 fac:Nat
 st:Nat
 age:Nat
 own:Nat
def nm(i:Nat)(p:Pl):Nat:=p.age*256+i
def Q4X(l:List Pl)(s k:Nat):List Nat:=(List.range k).filterMap fun i=>match l[i]? with
 | some p=>if p.st=s then some (nm i p) else none
 | none=>none
def allL(l:List Pl)(s:Nat):List Nat:=Q4X l s l.length
def pget(l:List Pl)(s h:Nat):Option Pl:=match l[h%256]? with
 | some p=>if nm (h%256) p=h/\p.st=s then some p else none
 | none=>none
theorem Q7h{l:List Pl}{k:Nat}{p:Pl}(hk:l[k]?=some p)(s:Nat):Q4X l s (k+1)=Q4X l s k++if p.st=s then [nm k p] else []:=by
 unfold Q4X;rw[J3m,J3n];congr 1;simp only[J3o,List.filterMap_nil,hk];by_cases h:p.st=s <;> simp[h]
theorem Q2A(l:List Pl)(s k:Nat):(Q4X l s k).length<=k:=by
 unfold Q4X;exact J3c (J3p _ _) (by simp)
theorem pget_some{l:List Pl}{s h:Nat}{p:Pl}:pget l s h=some p↔l[h%256]?=some p/\nm (h%256) p=h/\p.st=s:=by
 unfold pget;cases hl:l[h%256]? with
 | none=>simp
 | some q =>
  by_cases hc:nm (h%256) q=h/\q.st=s
  ·simp only[hc,and_self,if_true,J3q]
   constructor
   ·rintro rfl;exact⟨rfl,hc⟩
   ·exact fun e=>e.1
  ·simp only[hc,if_false,J3q]
   constructor
   ·intro e;cases e
   ·rintro⟨rfl,e⟩;exact absurd e hc
theorem Q1B{i:Nat}(hi:i<256)(p:Pl):nm i p%256=i:=by unfold nm;omega
theorem mem_allTo{l:List Pl}{s k h:Nat}:h∈Q4X l s k↔∃i p,i<k/\l[i]?=some p/\p.st=s/\h=nm i p:=by
 unfold Q4X;simp only[J3r,J3s]
 constructor
 ·rintro⟨i,hi,h⟩;cases hl:l[i]? with
  | none=>rw[hl] at h;cases h
  | some p =>
   rw[hl] at h;by_cases hs:p.st=s
   ·simp only[hs,if_true,J3q] at h;exact⟨i,p,hi,hl,hs,h.symm⟩
   ·simp only[hs,if_false] at h;cases h
 ·rintro⟨i,p,hi,hl,hs,rfl⟩;exact⟨i,hi,by simp[hl,hs]⟩
theorem Q3g{l:List Pl}(hl:l.length<=256){s h:Nat}:h∈allL l s↔∃p,pget l s h=some p:=by
 unfold allL;rw[mem_allTo]
 constructor
 ·rintro⟨i,p,hi,hp,hs,rfl⟩;refine⟨p,pget_some.2 ?_⟩;rw[Q1B (by omega)];exact⟨hp,rfl,hs⟩
 ·rintro⟨p,h1⟩;obtain⟨a,b,c⟩:=pget_some.1 h1;exact⟨h%256,p,(J3t.1 a).1,a,c,b.symm⟩
theorem Q7i{l:List Pl}(hl:l.length<=256)(s:Nat):(allL l s).Pairwise (fun a b=>a%256<b%256):=by
 unfold allL Q4X;rw[J3u];refine J3v.imp_of_mem ?_;intro i j hi hj Fj b hb b' Al;rw[J3s] at hi hj;cases h1:l[i]? with
 | none=>rw[h1] at hb;cases hb
 | some p =>
  cases h2:l[j]? with
  | none=>rw[h2] at Al;cases Al
  | some q =>
   rw[h1] at hb;rw[h2] at Al;by_cases c1:p.st=s
   ·by_cases c2:q.st=s
    ·simp only[c1,if_true,J3q] at hb;simp only[c2,if_true,J3q] at Al;subst hb;subst Al;rw[Q1B (by omega),Q1B (by omega)];exact Fj
    ·simp only[c2,if_false] at Al;cases Al
   ·simp only[c1,if_false] at hb;cases hb
theorem Z4A{l:List Pl}(hl:l.length<=256)(s:Nat):(allL l s).Nodup:=(Q7i hl s).imp fun h e=>by subst e;omega
theorem Q0S{l:List Pl}{s t h k:Nat}{p q:Pl}(h1:pget l s h=some p)(h2:pget l t k=some q)(e:h%256=k%256):h=k/\p=q/\s=t:=by
 obtain⟨a,b,c⟩:=pget_some.1 h1;obtain⟨a',b',c'⟩:=pget_some.1 h2;rw[e] at a;rw[a] at a';cases a';rw[e] at b;exact⟨b.symm.trans b',rfl,c.symm.trans c'⟩
def Z7O(l:List Pl)(a:Nat):List Nat:=(allL l 1).filter fun x=>decide (x≠0)&&match l[x%256]? with
 | some p=>decide (p.fac=a)
 | none=>false
def kids(l:List Pl)(h:Nat):List Nat:=match pget l 1 h with
 | some p=>if p.kind=1 then Z7O l p.own else []
 | none=>[]
theorem Z4B{l:List Pl}(hl:l.length<=256){a x:Nat}:x∈Z7O l a↔∃p,pget l 1 x=some p/\x≠0/\p.fac=a:=by
 unfold Z7O;rw[J3w,Q3g hl]
 constructor
 ·rintro⟨⟨p,hp⟩,h⟩;have:=(pget_some.1 hp).1;rw[this] at h;simp only[J3x,decide_eq_true_eq] at h;exact⟨p,hp,h.1,h.2⟩
 ·rintro⟨p,hp,h0,h1⟩;have:=(pget_some.1 hp).1;rw[this];exact⟨⟨p,hp⟩,by simp[h0,h1]⟩
theorem Q0R{l:List Pl}(hl:l.length<=256){h x:Nat}:x∈kids l h↔∃p q,pget l 1 h=some p/\p.kind=1/\pget l 1 x=some q/\x≠0/\q.fac=p.own:=by
 unfold kids;cases hp:pget l 1 h with
 | none=>simp
 | some p =>
  by_cases hk:p.kind=1
  ·simp only[hk,if_true,Z4B hl,J3q]
   constructor
   ·rintro⟨q,h1,h2,h3⟩;exact⟨p,q,rfl,hk,h1,h2,h3⟩
   ·rintro⟨_,q,rfl,_,h1,h2,h3⟩;exact⟨q,h1,h2,h3⟩
  ·simp only[hk,if_false,J3q]
   constructor
   ·intro h;exact absurd h J3y
   ·rintro⟨_,q,rfl,h,_⟩;exact absurd h hk
theorem Z0o{l:List Pl}(hl:l.length<=256)(h:Nat):(kids l h).Pairwise (fun a b=>a%256<b%256):=by
 unfold kids;split
 ·split
  ·exact(Q7i hl 1).filter _
  ·exact .nil
 ·exact .nil
structure Tre(l:List Pl)(N:Nat):Prop where
 len:l.length<=256
 lt:∀h p,pget l 1 h=some p->p.kind=1->p.own<N
 rise:∀h p,pget l 1 h=some p->h≠0->p.kind=1->p.fac<p.own
 inj:∀h k p q,pget l 1 h=some p->pget l 1 k=some q->p.kind=1->q.kind=1->p.own=q.own->h=k
def preN(l:List Pl):Nat->Nat->List Nat
 | 0,h=>[h]
 | n+1,h=>h::(kids l h).reverse.flatMap (preN l n)
def rank(l:List Pl)(N h:Nat):Nat:=match pget l 1 h with
 | some p=>if p.kind=1 then N-p.own else 0
 | none=>0
theorem Q4Y(l:List Pl)(N h:Nat):rank l N h<=N:=by
 unfold rank;split
 ·split <;> omega
 ·omega
theorem Q7X{l:List Pl}{N:Nat}(t:Tre l N){h x:Nat}(hx:x∈kids l h):rank l N x<rank l N h:=by
 obtain⟨p,q,h1,h2,h3,h4,h5⟩:=(Q0R t.len).1 hx;have:=t.lt h p h1 h2;unfold rank;simp only[h1,h2,h3,if_true];by_cases hk:q.kind=1
 ·simp only[hk,if_true];have:=t.lt x q h3 hk;have:=t.rise x q h3 h4 hk;omega
 ·simp only[hk,if_false];omega
theorem Q5Q{l:List Pl}{N:Nat}(t:Tre l N){h:Nat}(hr:rank l N h=0):kids l h=[]:=by
 cases hk:kids l h with
 | nil=>rfl
 | cons x r =>
  have:=Q7X t (h:=h) (x:=x) (by rw[hk];simp);omega
theorem Z1B{f g:Nat->List Nat}:∀{L:List Nat},(∀x∈L,f x=g x)->L.flatMap f=L.flatMap g
 | [],_=>rfl
 | x::r,h=>by rw[J3z,J3z,h x (by simp),Z1B (L:=r) fun y hy=>h y (by simp[hy])]
theorem Z0p{l:List Pl}{N:Nat}(t:Tre l N):∀n m h,rank l N h<=n->rank l N h<=m->preN l n h=preN l m h:=by
 intro n
 induction n with
 | zero =>
  intro m h h1 h2;have hk:=Q5Q t (J3A.1 h1);cases m with
  | zero=>rfl
  | succ m=>simp[preN,hk]
 | succ n ih =>
  intro m h h1 h2;cases m with
  | zero =>
   have hk:=Q5Q t (J3A.1 h2);simp[preN,hk]
  | succ m =>
   simp only[preN];congr 1;refine Z1B fun x hx=>?_
   have:=Q7X t (J3B.1 hx);exact ih m x (by omega) (by omega)
def pre(l:List Pl)(N h:Nat):List Nat:=preN l N h
theorem Q5R{l:List Pl}{N:Nat}(t:Tre l N)(h:Nat):pre l N h=h::(kids l h).reverse.flatMap (pre l N):=by
 have:pre l N h=preN l (N+1) h:=Z0p t N (N+1) h (Q4Y _ _ _) (by have:=Q4Y l N h;omega);rw[this];rfl
def Q0M(l:List Pl)(N h:Nat):List Nat:=(pre l N h).tail.reverse
theorem Q1L(l:List Pl)(N h:Nat):h∈pre l N h:=by
 unfold pre;cases N <;> simp[preN]
inductive Des (l:List Pl) (a:Nat):Nat->Prop where
 | here (x:Nat) (q:Pl):pget l 1 x=some q->x≠0->q.fac=a->Des l a x
 | up (x y:Nat) (q p:Pl):pget l 1 x=some q->x≠0->pget l 1 y=some p->p.kind=1->q.fac=p.own->Des l a y->Des l a x
theorem Des.live{l:List Pl}{a x:Nat}(h:Des l a x):x≠0/\∃q,pget l 1 x=some q:=by
 cases h with
 | here _ q h1 h2 h3=>exact⟨h2,q,h1⟩
 | up _ y q p h1 h2 h3 h4 h5 h6=>exact⟨h2,q,h1⟩
theorem Des.le{l:List Pl}{N a x:Nat}(t:Tre l N)(h:Des l a x):∀q,pget l 1 x=some q->a<=q.fac:=by
 induction h with
 | here x q h1 h2 h3=>intro q' h';rw[h1] at h';cases h';omega
 | up x y q p h1 h2 h3 h4 h5 h6 ih =>
  intro q' h';rw[h1] at h';cases h';have:=ih p h3;have:=t.rise y p h3 h6.live.1 h4;omega
theorem Des.line{l:List Pl}{N a b x:Nat}(t:Tre l N)(h:Des l a x):Des l b x->a=b∨(∃y p,pget l 1 y=some p/\p.kind=1/\p.own=a/\Des l b y)∨(∃y p,pget l 1 y=some p/\p.kind=1/\p.own=b/\Des l a y):=by
 induction h with
 | here x q h1 h2 h3 =>
  intro k;cases k with
  | here _ q' k1 k2 k3=>rw[h1] at k1;cases k1;left;omega
  | up _ y q' p k1 k2 k3 k4 k5 k6=>rw[h1] at k1;cases k1;right;left;exact⟨y,p,k3,k4,by omega,k6⟩
 | up x y q p h1 h2 h3 h4 h5 h6 ih =>
  intro k;cases k with
  | here _ q' k1 k2 k3=>rw[h1] at k1;cases k1;right;right;exact⟨y,p,h3,h4,by omega,h6⟩
  | up _ y' q' p' k1 k2 k3 k4 k5 k6 =>
   rw[h1] at k1;cases k1;have:y=y':=t.inj y y' p p' h3 k3 h4 k4 (by omega);subst this;exact ih k6
theorem Q3C{l:List Pl}{N:Nat}(t:Tre l N):∀n h x,x∈preN l n h->x=h∨∃p,pget l 1 h=some p/\p.kind=1/\Des l p.own x:=by
 intro n
 induction n with
 | zero=>intro h x hx;left;simpa[preN] using hx
 | succ n ih =>
  intro h x hx;simp only[preN,J3g,J3C,J3B] at hx;rcases hx with rfl|⟨k,hk,hx⟩
  ·exact .inl rfl
  ·right;obtain⟨p,q,h1,h2,h3,h4,h5⟩:=(Q0R t.len).1 hk;refine⟨p,h1,h2,?_⟩;have Bt:Des l p.own k:=.here k q h3 h4 h5;rcases ih k x hx with rfl|⟨q',h6,h7,h8⟩
   ·exact Bt
   ·rw[h3] at h6;cases h6;clear ih hx
    induction h8 with
    | here x r g1 g2 g3=>exact .up x k r q g1 g2 h3 h7 g3 Bt
    | up x y r s g1 g2 g3 g4 g5 g6 ih=>exact .up x y r s g1 g2 g3 g4 g5 ih
theorem Q8H{l:List Pl}{N:Nat}(t:Tre l N){h x1 x2 n m z:Nat}(h1:x1∈kids l h)(h2:x2∈kids l h)(Aa:x1≠x2)(AX:z∈preN l n x1)(AU:z∈preN l m x2):False:=by
 obtain⟨p,q1,a1,a2,a3,a4,a5⟩:=(Q0R t.len).1 h1;obtain⟨p',q2,b1,b2,b3,b4,b5⟩:=(Q0R t.len).1 h2;rw[a1] at b1;cases b1
 -- nothing is Q0M one of its own like
 have no:∀(u v:Nat) (r s:Pl),pget l 1 u=some r->pget l 1 v=some s->u≠0->r.fac=p.own->s.fac=p.own->r.kind=1->¬Des l r.own v:=by
  intro u v r s c1 c2 c0 c3 c4 c5 hd;have:=hd.le t s c2;have:=t.rise u r c1 c0 c5;omega
 rcases Q3C t n x1 z AX with rfl|⟨r1,c1,c2,c3⟩
 ·rcases Q3C t m x2 z AU with e|⟨r2,d1,d2,d3⟩
  ·exact Aa e
  ·rw[b3] at d1;cases d1;exact no x2 z q2 q1 b3 a3 b4 b5 a5 d2 d3
 ·rw[a3] at c1;cases c1;rcases Q3C t m x2 z AU with rfl|⟨r2,d1,d2,d3⟩
  ·exact no x1 z q1 q2 a3 b3 a4 a5 b5 c2 c3
  ·rw[b3] at d1;cases d1;rcases c3.line t d3 with e|⟨y,s,e1,e2,e3,e4⟩|⟨y,s,e1,e2,e3,e4⟩
   ·exact Aa (t.inj x1 x2 q1 q2 a3 b3 c2 d2 e)
   ·have:y=x1:=t.inj y x1 s q1 e1 a3 e2 c2 e3;subst this;exact no x2 y q2 q1 b3 a3 b4 b5 a5 d2 e4
   ·have:y=x2:=t.inj y x2 s q2 e1 b3 e2 d2 e3;subst this;exact no x1 y q1 q2 a3 b3 a4 a5 b5 c2 e4
theorem Q3D{l:List Pl}{N:Nat}(t:Tre l N):∀n h x y,rank l N h<=n->x∈preN l n h->y∈kids l x->y∈preN l n h:=by
 intro n
 induction n with
 | zero =>
  intro h x y hr hx hy;have:x=h:=by simpa[preN] using hx
  subst this;rw[Q5Q t (J3A.1 hr)] at hy;cases hy
 | succ n ih =>
  intro h x y hr hx hy;simp only[preN,J3g,J3C,J3B] at hx ⊢;rcases hx with rfl|⟨k,hk,hx⟩
  ·exact .inr ⟨y,hy,Q1L l n y⟩
  ·have:=Q7X t hk;exact .inr ⟨k,hk,ih k x y (by omega) hx hy⟩
theorem Z7P{l:List Pl}:∀n h x,x∈preN l n h->x=h∨∃z∈preN l n h,x∈kids l z:=by
 intro n
 induction n with
 | zero=>intro h x hx;left;simpa[preN] using hx
 | succ n ih =>
  intro h x hx;simp only[preN,J3g,J3C,J3B] at hx ⊢;rcases hx with rfl|⟨k,hk,hx⟩
  ·exact .inl rfl
  ·right;rcases ih k x hx with rfl|⟨z,hz,Cb⟩
   ·exact⟨h,.inl rfl,hk⟩
   ·exact⟨z,.inr ⟨k,hk,hz⟩,Cb⟩
theorem Z7Q{l:List Pl}{N:Nat}(t:Tre l N):∀n {h x:Nat},x∈preN l n h->x∈preN l N h:=by
 intro n
 induction n with
 | zero =>
  intro h x hx;have:x=h:=by simpa[preN] using hx
  subst this;exact Q1L l N x
 | succ n ih =>
  intro h x hx;have e:preN l N h=h::(kids l h).reverse.flatMap (preN l N):=Q5R t h;rw[e];simp only[preN,J3g,J3C] at hx ⊢;rcases hx with rfl|⟨k,hk,hx⟩
  ·exact .inl rfl
  ·exact .inr ⟨k,hk,ih hx⟩
theorem Q5A{l:List Pl}{N:Nat}(t:Tre l N):∀n h,(preN l n h).Pairwise (fun a b=>a≠b/\a∉kids l b):=by
 intro n
 induction n with
 | zero=>intro h;simp[preN]
 | succ n ih =>
  intro h;simp only[preN,J3D,J3E];refine⟨?_,fun x _=>ih x,?_⟩
  ·intro b hb;have Al:b∈preN l (n+1) h:=by simp only[preN,J3g];exact .inr hb
   have key:∀p q,pget l 1 h=some p->p.kind=1->Des l p.own b->pget l 1 b=some q->p.own<=q.fac:=fun p q _ _ hd hq=>hd.le t q hq
   obtain⟨k,hk,AJ⟩:=J3C.1 hb;rw[J3B] at hk;obtain⟨p,q,a1,a2,a3,a4,a5⟩:=(Q0R t.len).1 hk;have hd:Des l p.own b:=by
    rcases Q3C t (n+1) h b Al with rfl|⟨p',h1,_,h3⟩
    ·-- it is Q0M itself
     exfalso;rcases Q3C t n k b AJ with rfl|⟨q',h6,h7,h8⟩
     ·rw[a1] at a3;cases a3;have:=t.rise b p a1 a4 a2;omega
     ·rw[a3] at h6;cases h6;have e1:=h8.le t p a1;have e2:=t.rise k q a3 a4 h7;have e3:=t.rise b p a1 h8.live.1 a2;omega
    ·rw[a1] at h1;cases h1;exact h3
   obtain⟨Bw,r,hr⟩:=hd.live;have D1:=hd.le t r hr;refine⟨?_,?_⟩
   ·rintro rfl;rw[a1] at hr;cases hr;have:=t.rise h p a1 Bw a2;omega
   ·intro hm;obtain⟨s,u,c1,c2,c3,c4,c5⟩:=(Q0R t.len).1 hm;rw[hr] at c1;cases c1;rw[a1] at c3;cases c3;have:=t.rise h p a1 c4 a2;have:=t.rise b r hr Bw c2;omega
  ·rw[J3F];refine(Z0o t.len h).imp_of_mem ?_;intro x1 x2 h1 h2 Ab a ha b hb;have Aa:x1≠x2:=by rintro rfl;omega
   refine⟨?_,?_⟩
   ·rintro rfl;exact Q8H t h1 h2 Aa hb ha
   ·intro hm;obtain⟨s,u,c1,c2,c3,c4,c5⟩:=(Q0R t.len).1 hm
    -- a is Q0M x1 too
    have Ai:b∈preN l N x1:=Z7Q t n hb;have UA:a∈preN l N x1:=Q3D t N x1 b a (Q4Y _ _ _) Ai hm;exact Q8H t h1 h2 Aa UA ha
theorem Q4q:∀(n:Nat) (l:List Nat),l.Nodup->(∀x∈l,x<n)->l.length<=n
 | 0,l,_,h=>by
  cases l with
  | nil=>simp
  | cons x r=>exact absurd (h x (by simp)) (by omega)
 | n+1,l,hn,h=>by
  have h1:=Q4q n (l.erase n) (hn.erase n) fun x hx=>by
   have:=h x (J3G hx);have Aa:x≠n:=fun e=>by subst e;exact(List.Nodup.not_mem_erase hn) hx
   omega
  by_cases hm:n∈l
  ·rw[List.length_erase_of_mem hm] at h1;omega
  ·rw[List.erase_of_not_mem hm] at h1;omega
theorem Q5B{l:List Pl}{N:Nat}(t:Tre l N){h x:Nat}(hx:x∈pre l N h):x=h∨x≠0/\∃q,pget l 1 x=some q:=by
 rcases Q3C t N h x hx with e|⟨p,_,_,hd⟩
 ·exact .inl e
 ·exact .inr hd.live
theorem Z4C{l:List Pl}{N:Nat}(t:Tre l N)(h:Nat):(pre l N h).length<=256:=by
 cases hp:pget l 1 h with
 | none =>
  have hk:kids l h=[]:=by unfold kids;rw[hp]
  rw[Q5R t h,hk];simp
 | some p =>
  have BX:∀x∈pre l N h,∃q,pget l 1 x=some q:=fun x hx=>by
   rcases Q5B t hx with rfl|⟨_,h⟩
   ·exact⟨p,hp⟩
   ·exact h
  have:((pre l N h).map (·%256)).Nodup:=by
   unfold List.Nodup;rw[J3H];refine(Q5A t N h).imp_of_mem ?_;intro a b ha hb Cp e;obtain⟨q,hq⟩:=BX a ha;obtain⟨r,hr⟩:=BX b hb;exact Cp.1 (Q0S hq hr e).1
  have:=Q4q 256 _ this (by
   intro x hx;obtain⟨y,_,rfl⟩:=J3h.1 hx;omega)
  simpa using this
def rest(l:List Pl)(N:Nat)(ws:List Nat):List Nat:=ws.reverse.flatMap (pre l N)
theorem Q8I{l:List Pl}{N:Nat}(t:Tre l N)(ws:List Nat)(x:Nat):rest l N (ws++[x])=x::rest l N (ws++kids l x):=by
 unfold rest;rw[J3I,J3I,J3J,J3K,J3K,J3L,Q5R t x];rfl
theorem Z7R(l:List Pl)(N:Nat)(ws:List Nat):ws.length<=(rest l N ws).length:=by
 unfold rest;have:∀w:List Nat,w.length<=(w.flatMap (pre l N)).length:=by
  intro w
  induction w with
  | nil=>simp
  | cons x r ih =>
   rw[J3z,J3M,J3N];have:0<(pre l N x).length:=List.length_pos_of_mem (Q1L l N x);omega
 simpa using this ws.reverse
theorem Z7S{l:List Pl}{N:Nat}(t:Tre l N){h x:Nat}{A B:List Nat}(hu:Q0M l N h=A++x::B):x≠h/\x≠0/\(∃q,pget l 1 x=some q)/\(∀y∈kids l x,y∈A)/\x∉A/\x∉B:=by
 have he:pre l N h=h::(pre l N h).tail:=by rw[Q5R t h];rfl
 have hT:(pre l N h).tail=B.reverse++x::A.reverse:=by
  have:=congrArg List.reverse hu;unfold Q0M at this;rw[J3O] at this;rw[this];simp
 have hp:=Q5A t N h;have BH:(pre l N h).Pairwise (fun a b=>a≠b/\a∉kids l b):=hp;rw[he,hT] at BH;obtain⟨q1,q2⟩:=J3D.1 BH;obtain⟨q3,q4,q5⟩:=J3P.1 q2;obtain⟨q6,q7⟩:=J3D.1 q4;have JV:x∈pre l N h:=by rw[he,hT];simp
 have MQ:x≠h:=fun e=>(q1 x (by simp)).1 e.symm
 obtain⟨Cw,D2⟩:=(Q5B t JV).resolve_left MQ;refine⟨MQ,Cw,D2,fun y hy=>?_,fun hm=>?_,fun hm=>?_⟩
 ·have IA:y∈pre l N h:=Q3D t N h x y (Q4Y _ _ _) JV hy;rw[he,hT] at IA;simp only[J3g,J3Q,J3B] at IA;rcases IA with rfl|IA|rfl|IA
  ·exact absurd hy (q1 x (by simp)).2
  ·exact absurd hy (q5 y (by simpa using IA) x (by simp)).2
  ·exfalso
   -- none is of its own
   obtain⟨p,q,a1,a2,a3,a4,a5⟩:=(Q0R t.len).1 hy;rw[a1] at a3;cases a3;have:=t.rise y p a1 a4 a2;omega
  ·exact IA
 ·exact(q6 x (by simpa using hm)).1 rfl
 ·exact(q5 x (by simpa using hm) x (by simp)).1 rfl
open Go.RowKit
def dbi(t:Nat):Nat:=(2 ^ t*285870213051353865%18446744073709551616)/288230376151711744
def dbt:List Nat:=[0,1,56,2,57,49,28,3,61,58,42,50,38,29,17,4,62,47,59,36,45,43,51,22,53,39,33,30,24,18,12,5,63,55,48,27,60,41,37,16,46,35,44,21,52,32,23,11,54,26,40,15,34,20,31,10,25,14,19,9,13,8,7,6]
theorem J0m:∀t,t<64->dbi t<64/\dbt[dbi t]?=some t:=by decide +kernel
def TabB(w:World):Prop:=∀(j v:Nat),dbt[j]?=some v->w.cell? ⟨1,j,none⟩=some (.int .u8 v)
def Z4D:List Int:=[0,64,128,256,32,32,48,256]
def TabC(w:World):Prop:=∀(j:Nat) (v:Int),Z4D[j]?=some v->w.cell? ⟨0,j,none⟩=some (.int .i64 v)
def GB:Nat:=3
structure Env(w:World):Prop where
 gb:GB<=w.heap.size
 tabB:TabB w
 tabC:TabC w
theorem Env.same{w w':World}(h:Env w)(hb:∀b,b<GB->w'.heap[b]?=w.heap[b]?)(hs:GB<=w'.heap.size):Env w':=by
 refine⟨hs,fun j v hv=>?_,fun j v hv=>?_⟩
 ·exact(World.cell?_of_block (w:=w) (hb 1 (by decide))).trans (h.tabB j v hv)
 ·exact(World.cell?_of_block (w:=w) (hb 0 (by decide))).trans (h.tabC j v hv)
theorem Q0a{p:Prop}(h:p):Hid p:=h
abbrev HL:=List (Nat×(Obj->Prop))
def keys(H:HL):List Nat:=H.map Prod.fst
@[simp] theorem keys_nil:keys []=[]:=rfl
@[simp] theorem keys_cons (p:Nat×(Obj->Prop)) (H:HL):keys (p::H)=p.1::keys H:=rfl
@[simp] theorem keys_append (A B:HL):keys (A++B)=keys A++keys B:=by simp[keys]
structure Sep(w:World)(H:HL):Prop where
 nd:(keys H).Nodup
 at':∀p∈H,∃o,w.heap[p.1]?=some o/\p.2 o
 hi:∀b∈keys H,GB<=b
 env:Env w
structure Step(H H':HL)(w w':World):Prop where
 sep:Sep w' H'
 chg:Chg (fun b=>b∈keys H) w w'
 new:∀b∈keys H',b∈keys H∨w.heap.size<=b
def isC(T:TypeId)(cs:List Value):Obj->Prop:=fun o=>o=.cells cs.toArray T (0,0)
def isR(T:TypeId)(n:Nat)(cs:List Value):Obj->Prop:=fun o=>∃Ag:Array Value,o=.cells Ag T (0,0)/\Ag.size=n/\Ag.toList.take cs.length=cs
def isM(kv:List (Value×Value)):Obj->Prop:=fun o=>∃es Ah,o=.map es Ah/\KvOf es Ah kv
theorem Sep.lt{w:World}{H:HL}(h:Sep w H){b:Nat}(hb:b∈keys H):b<w.heap.size:=by
 obtain⟨p,hp,rfl⟩:=J3h.1 hb;obtain⟨o,ho,_⟩:=h.at' p hp;exact lt_of_block ho
theorem Sep.nil{w:World}(h:Env w):Sep w []:=⟨by simp,by simp,by simp,h⟩
theorem Sep.sub{w:World}{H K:HL}(h:Sep w H)(hs:K.Sublist H):Sep w K:=⟨h.nd.sublist (hs.map _),fun p hp=>h.at' p (hs.subset hp),fun b hb=>h.hi b ((hs.map Prod.fst).subset hb),h.env⟩
theorem Sep.perm{w:World}{H K:HL}(h:Sep w H)(hp:H.Perm K):Sep w K:=⟨(hp.map _).nodup_iff.1 h.nd,fun p BH=>h.at' p (hp.mem_iff.2 BH),fun b hb=>h.hi b ((hp.map Prod.fst).mem_iff.2 hb),h.env⟩
theorem Sep.left{w:World}{A B:HL}(h:Sep w (A++B)):Sep w A:=h.sub (J3R A B)
theorem Sep.right{w:World}{A B:HL}(h:Sep w (A++B)):Sep w B:=h.sub (J3S A B)
theorem Sep.tail{w:World}{p:Nat×(Obj->Prop)}{B:HL}(h:Sep w (p::B)):Sep w B:=h.sub (J3T p B)
theorem Sep.get{w:World}{H:HL}(h:Sep w H){b:Nat}{q:Obj->Prop}(hm:(b,q)∈H):∃o,w.heap[b]?=some o/\q o:=h.at' (b,q) hm
theorem Sep.cells{w:World}{H:HL}(h:Sep w H){b:Nat}{T:TypeId}{cs:List Value}(hm:(b,isC T cs)∈H):Cells w b T cs:=by
 obtain⟨o,ho,rfl⟩:=h.get hm;exact ho
theorem Sep.map{w:World}{H:HL}(h:Sep w H){b:Nat}{kv:List (Value×Value)}(hm:(b,isM kv)∈H):MapIs w b kv:=by
 obtain⟨o,ho,es,Ah,rfl,hr⟩:=h.get hm;exact⟨es,Ah,ho,hr⟩
theorem Sep.row{w:World}{H:HL}(h:Sep w H){b:Nat}{T:TypeId}{n:Nat}{cs:List Value}(hm:(b,isR T n cs)∈H):∃ds,Cells w b T ds/\ds.length=n/\ds.take cs.length=cs:=by
 obtain⟨o,ho,Ag,rfl,hn,hr⟩:=h.get hm;exact⟨Ag.toList,by simpa[Cells] using ho,by simpa using hn,hr⟩
theorem Sep.same{w w':World}{H:HL}(h:Sep w H)(hs:∀b∈keys H,w'.heap[b]?=w.heap[b]?)(he:Env w'):Sep w' H:=
 ⟨h.nd,fun p hp=>by obtain⟨o,ho,hq⟩:=h.at' p hp;exact⟨o,(hs p.1 (J3U hp)).trans ho,hq⟩,h.hi,he⟩
theorem Env.chg{w w':World}{F:Nat->Prop}(h:Env w)(hc:Chg F w w')(hF:∀b,F b->GB<=b):Env w':=
 h.same (fun b hb=>hc.block b (J3d hb h.gb) fun hf=>by have:=hF b hf;omega) (J3c h.gb hc.size)
theorem Env.below{w w':World}(h:Env w)(hb:Below w.heap.size w w'):Env w':=
 h.same (fun b hl=>hb.block b (J3d hl h.gb)) (J3c h.gb hb.size)
theorem Sep.chg{w w':World}{H:HL}{F:Nat->Prop}(h:Sep w H)(hc:Chg F w w')(hF:∀b∈keys H,¬F b)(hG:∀b,F b->GB<=b):Sep w' H:=
 h.same (fun b hb=>hc.block b (h.lt hb) (hF b hb)) (h.env.chg hc hG)
theorem Step.refl{w:World}{H:HL}(h:Sep w H):Step H H w w:=⟨h,Chg.refl _ _,fun _ hb=>.inl hb⟩
theorem Step.trans{w w1 w2:World}{H H1 H2:HL}(h:Step H H1 w w1)(k:Step H1 H2 w1 w2):Step H H2 w w2:=by
 have hs:=h.chg.size;refine⟨k.sep,h.chg.trans k.chg h.new,fun b hb=>?_⟩;rcases k.new b hb with h'|h'
 ·exact h.new b h'
 ·exact .inr (by omega)
theorem Step.perm{w w':World}{H H' K K':HL}(h:Step H H' w w')(hp:H.Perm K)(BH:H'.Perm K'):Step K K' w w':=
 ⟨h.sep.perm BH,h.chg.mono fun b hb=>.inl ((hp.map _).mem_iff.1 hb),fun b hb=>by rcases h.new b ((BH.map _).mem_iff.2 hb) with h'|h';exact .inl ((hp.map _).mem_iff.1 h');exact .inr h'⟩
theorem Step.frame{w w':World}{H H':HL}(A B:HL)(hA:Sep w (A++H++B))(h:Step H H' w w'):Step (A++H++B) (A++H'++B) w w':=by
 have AO:=hA.nd;simp only[keys_append] at AO;have hd:=J3V.1 AO;have GC:=J3V.1 hd.1;have other:∀b,b∈keys A∨b∈keys B->b∉keys H:=by
  rintro b (hb|hb) hH
  ·exact GC.2.2 b hb b hH rfl
  ·exact hd.2.2 b (J3W _ hH) b hb rfl
 have lt:∀b,b∈keys A∨b∈keys B->b<w.heap.size:=by
  rintro b (hb|hb) <;> refine hA.lt ?_ <;> simp[hb]
 have fresh:∀b,b∈keys A∨b∈keys B->b∉keys H':=by
  intro b hb UP;rcases h.new b UP with h1|h1
  ·exact other b hb h1
  ·have:=lt b hb;omega
 refine⟨⟨?_,?_,?_,h.sep.env⟩,?_,?_⟩
 ·simp only[keys_append];rw[J3V];refine⟨?_,hd.2.1,?_⟩
  ·rw[J3V];exact⟨GC.1,h.sep.nd,fun a ha b hb e=>fresh a (.inl ha) (e ▸ hb)⟩
  ·intro a ha b hb e;subst e;rcases J3Q.1 ha with ha|ha
   ·exact hd.2.2 a (J3X _ ha) a hb rfl
   ·exact fresh a (.inr hb) ha
 ·intro p hp;rcases J3Q.1 hp with hp|hp
  ·rcases J3Q.1 hp with hp|hp
   ·obtain⟨o,ho,hq⟩:=hA.at' p (by simp[hp]);exact⟨o,(h.chg.block p.1 (lt_of_block ho) (other p.1 (.inl (J3U hp)))).trans ho,hq⟩
   ·exact h.sep.at' p hp
  ·obtain⟨o,ho,hq⟩:=hA.at' p (by simp[hp]);exact⟨o,(h.chg.block p.1 (lt_of_block ho) (other p.1 (.inr (J3U hp)))).trans ho,hq⟩
 ·intro b hb;simp only[keys_append,J3Q] at hb;rcases hb with (hb|hb)|hb
  ·exact hA.hi b (by simp[hb])
  ·exact h.sep.hi b hb
  ·exact hA.hi b (by simp[hb])
 ·exact h.chg.mono fun b hb=>.inl (by simp[hb])
 ·intro b hb;simp only[keys_append,J3Q] at hb ⊢;rcases hb with (hb|hb)|hb
  ·exact .inl (.inl (.inl hb))
  ·rcases h.new b hb with h'|h'
   ·exact .inl (.inl (.inr h'))
   ·exact .inr h'
  ·exact .inl (.inr hb)
theorem Step.drop{w w':World}{H H' K:HL}(h:Step H H' w w')(hs:K.Sublist H'):Step H K w w':=
 ⟨h.sep.sub hs,h.chg,fun b hb=>h.new b ((hs.map Prod.fst).subset hb)⟩
theorem Step.from_drew{w w':World}{H H':HL}(h:Step H H' w.drew w'):Step H H' w w':=⟨h.sep,((Chg.refl (fun b=>b∈keys H) w).drew).trans h.chg fun _ hb=>.inl hb,h.new⟩
theorem Step.from_drewN{w w':World}{H H':HL}{n:Nat}(h:Step H H' (w.drewN n) w'):Step H H' w w':=⟨h.sep,⟨h.chg.os,h.chg.tape,h.chg.output,h.chg.size,h.chg.block⟩,h.new⟩
theorem Step.from_alloc{w w':World}{H H':HL}{o:Obj}(h:Step H H' (w.alloc o) w'):Step H H' w w':=by
 have hs:(w.alloc o).heap.size=w.heap.size+1:=by simp
 refine⟨h.sep,((Chg.refl (fun b=>b∈keys H) w).alloc o).trans h.chg fun _ hb=>.inl hb,fun b hb=>?_⟩;rcases h.new b hb with h'|h'
 ·exact .inl h'
 ·exact .inr (by omega)
theorem Sep.grown{w w':World}{H:HL}(h:Sep w H)(hb:Below w.heap.size w w'):Step H H w w':=
 ⟨h.same (fun b Al=>hb.block b (h.lt Al)) (h.env.below hb),⟨hb.os,hb.tape,hb.output,hb.size,fun k hk _=>hb.block k hk⟩,fun _ hb=>.inl hb⟩
theorem Sep.drew{w:World}{H:HL}(h:Sep w H):Sep w.drew H:=h.same (fun _ _=>rfl) (h.env.same (fun _ _=>rfl) h.env.gb)
theorem Step.drew{w w':World}{H H':HL}(h:Step H H' w w'):Step H H' w w'.drew:=⟨h.sep.drew,h.chg.drew,h.new⟩
theorem Sep.drewN{w:World}{H:HL}(h:Sep w H)(n:Nat):Sep (w.drewN n) H:=h.same (fun _ _=>rfl) (h.env.same (fun _ _=>rfl) h.env.gb)
theorem Sep.alloc{w:World}{H:HL}(h:Sep w H)(o:Obj):Sep (w.alloc o) H:=h.same (fun b hb=>Below.heap_alloc _ _ _ (h.lt hb)) (h.env.below ((Below.refl _ _).alloc (J3b _) _))
theorem Sep.new{w:World}{H:HL}(h:Sep w H)(T:TypeId)(cs:List Value):Step H ((w.heap.size,isC T cs)::H) w (w.alloc (.cells cs.toArray T)):=by
 refine⟨⟨?_,?_,?_,(h.alloc _).env⟩,(Chg.refl _ _).alloc _,?_⟩
 ·simp only[keys_cons,J3Y];exact⟨fun hb=>by have:=h.lt hb;omega,h.nd⟩
 ·intro p hp;rcases J3g.1 hp with rfl|hp
  ·exact⟨_,Cells.new w T cs,rfl⟩
  ·exact(h.alloc _).at' p hp
 ·intro b hb;rcases J3g.1 hb with rfl|hb
  ·exact h.env.gb
  ·exact h.hi b hb
 ·intro b hb;rcases J3g.1 hb with rfl|hb
  ·exact .inr (J3b _)
  ·exact .inl hb
theorem Sep.newMap{w:World}{H:HL}(h:Sep w H):Step H ((w.heap.size,isM [])::H) w (w.alloc (.map #[] 0)):=by
 refine⟨⟨?_,?_,?_,(h.alloc _).env⟩,(Chg.refl _ _).alloc _,?_⟩
 ·simp only[keys_cons,J3Y];exact⟨fun hb=>by have:=h.lt hb;omega,h.nd⟩
 ·intro p hp;rcases J3g.1 hp with rfl|hp
  ·refine⟨.map #[] 0,?_,⟨#[],0,rfl,Go.MapKept.stamped_empty 0,rfl⟩⟩;show(w.heap.push _)[w.heap.size]?=_;simp
  ·exact(h.alloc _).at' p hp
 ·intro b hb;rcases J3g.1 hb with rfl|hb
  ·exact h.env.gb
  ·exact h.hi b hb
 ·intro b hb;rcases J3g.1 hb with rfl|hb
  ·exact .inr (J3b _)
  ·exact .inl hb
theorem Sep.set{w:World}{A B:HL}{b:Nat}{T:TypeId}{cs:List Value}(h:Sep w (A++(b,isC T cs)::B))(i:Nat)(v:Value):Step (A++(b,isC T cs)::B) (A++(b,isC T (cs.set i v))::B) w (w.setCell ⟨b,i,none⟩ v):=by
 have hc:Cells w b T cs:=h.cells (by simp);have AO:=h.nd;have DJ:Chg (fun b'=>b'∈keys (A++(b,isC T cs)::B)) w (w.setCell ⟨b,i,none⟩ v):=(Chg.refl _ _).set _ _ (.inl (by simp));refine⟨⟨by simpa using AO,?_,fun b' Al=>h.hi b' (by simpa using Al),h.env.chg DJ h.hi⟩,DJ,fun b' Al=>.inl (by simpa using Al)⟩;intro p hp;by_cases Iq:p.1=b
 ·have BH:p=(b,isC T (cs.set i v)):=by
   simp only[keys_append,keys_cons] at AO;have hn:=J3V.1 AO;rcases J3Q.1 hp with hp|hp
   ·exact absurd rfl (hn.2.2 b (Iq ▸ J3U hp) b (by simp))
   ·rcases J3g.1 hp with rfl|hp
    ·rfl
    ·exact absurd (Iq ▸ J3U hp) (J3Y.1 hn.2.1).1
  subst BH;exact⟨_,hc.set i v,rfl⟩
 ·obtain⟨o,ho,hq⟩:=h.at' p (by
   rcases J3Q.1 hp with hp|hp
   ·simp[hp]
   ·rcases J3g.1 hp with rfl|hp
    ·exact absurd rfl Iq
    ·simp[hp])
  exact⟨o,(Below.heap_setCell _ _ _ _ Iq).trans ho,hq⟩
theorem Sep.turn{w w':World}{A B:HL}{b:Nat}{q q':Obj->Prop}(h:Sep w (A++(b,q)::B))(hg:w.grownBy w' (some b))(hq:∃o,w'.heap[b]?=some o/\q' o):Step (A++(b,q)::B) (A++(b,q')::B) w w':=by
 have AO:=h.nd;have DJ:Chg (fun b'=>b'∈keys (A++(b,q)::B)) w w':=⟨hg.os,hg.tape,hg.output,hg.size,fun k hk hF=>hg.block k hk (fun e=>hF (by cases e;simp))⟩
 refine⟨⟨by simpa using AO,?_,fun b' Al=>h.hi b' (by simpa using Al),h.env.chg DJ h.hi⟩,DJ,fun b' Al=>.inl (by simpa using Al)⟩;intro p hp;by_cases Iq:p.1=b
 ·have BH:p=(b,q'):=by
   simp only[keys_append,keys_cons] at AO;have hn:=J3V.1 AO;rcases J3Q.1 hp with hp|hp
   ·exact absurd rfl (hn.2.2 b (Iq ▸ J3U hp) b (by simp))
   ·rcases J3g.1 hp with rfl|hp
    ·rfl
    ·exact absurd (Iq ▸ J3U hp) (J3Y.1 hn.2.1).1
  subst BH;exact hq
 ·have A5:p∈A++(b,q)::B:=by
   rcases J3Q.1 hp with hp|hp
   ·simp[hp]
   ·rcases J3g.1 hp with rfl|hp
    ·exact absurd rfl Iq
    ·simp[hp]
  obtain⟨o,ho,hq⟩:=h.at' p A5;exact⟨o,(hg.block p.1 (lt_of_block ho) (fun e=>Iq (J3Z e))).trans ho,hq⟩
theorem Step.below{w w':World}{H H':HL}{B:Nat}(h:Step H H' w w')(hB:B<=w.heap.size)(hH:∀b∈keys H,B<=b):Below B w w':=h.chg.below hB hH
theorem Q4r{α:Type}(f:α->HL)(L:List α)(k:Nat)(x:α)(h:L[k]?=some x):L.flatMap f=(L.take k).flatMap f++f x++(L.drop (k+1)).flatMap f:=by
 have hk:k<L.length:=(J3t.1 h).1;have e:L=L.take k++x::L.drop (k+1):=by
  have:=J3t.1 h;rw[<- this.2,J4a,J4b]
 conv=>lhs;rw[e]
 simp[List.append_assoc]
theorem J0c{α:Type}(f:α->HL)(L:List α)(k:Nat)(y:α)(h:k<L.length):(L.set k y).flatMap f=(L.take k).flatMap f++f y++(L.drop (k+1)).flatMap f:=by
 rw[Q4r f (L.set k y) k y (by simp[h]),J4d (J3b k),J4e (by omega)]
theorem Z7T(z:Value)(n:Nat):madeCells #[z] n=(List.replicate n z).toArray:=by
 apply Array.ext'
 simp[madeCells,List.eq_replicate_iff,Nat.mod_one]
theorem Q5p{P:Program}{w:World}(t e:TypeId)(i:TypeInfo)(z:Value)(bytes:Nat)(ht:P.underlying t=some (.slice e))(hi:P.info? e=some i)(hz:i.zero=some z)(hs:i.size=1)(hb:i.bytes=bytes)(hzc:z.cells=#[z])
  (n:Nat) (hn:n<=1099511627776) (G2:bytes<=256) :
  (Instr.makeSlice t (.int .i64 n) (.int .i64 n)).run P w=.ok (.slice (some ⟨w.heap.size,0,none⟩) n n) (w.alloc (.cells (List.replicate n z).toArray e)):=by
 have h1:i.bytes*n<=256*1099511627776:=J4f (by omega) hn;have h2:(i.bytes:Int)*(n:Int)<=281474976710656:=by
  have h:((i.bytes*n:Nat):Int)<=281474976710656:=by omega
  rwa [J4g] at h
 have:=run_make (P:=P) w t e i z ht hi hz .i64 .i64 n n (by omega) (by omega) h2 (by omega);rw[hs,hzc,J4h,J4i,Z7T] at this;exact this
def Told(w:World)(v:Value)(r:Ending)(w':World):Prop:=r=.returned v/\Below w.heap.size w w'
end Go.Proofs.YtfidemmgofcnmaaGreatDoor
