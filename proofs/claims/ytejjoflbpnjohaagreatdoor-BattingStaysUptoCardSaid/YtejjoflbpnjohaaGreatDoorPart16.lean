/- Part 16. -/
import Derived.Test.YtejjoflbpnjohaaGreatDoorPart04
import Derived.Lib.Builder
import Derived.Lib.AppendStr
import Derived.WalkKit
import Derived.Test.YtejjoflbpnjohaaGreatDoorProg
import Derived.Shelf.RegionOpenPlain
import Derived.Lib.Walk
import Derived.Lib.UnsafeStr
import Derived.Laws.Externs
import Derived.KernelRfl
set_option linter.unusedVariables false
set_option linter.unusedSimpArgs false
section
namespace Go.Px
open Go.Lib Go.RowKit
section
variable {P:Program} {w:World}
theorem BufAt.kept {w':World} {e:TypeId} {v:Value} {bs:List Value} (h:BufAt w e v bs) (hw:∀ g,v.ownBlock=some g→w'.heap[g]?=w.heap[g]?):BufAt w' e v bs:=by
 rcases h with h | ⟨g,cap,cur,h1,h2,h3⟩
 ·exact .inl h
 ·exact .inr ⟨g,cap,cur,h1,(hw g (by rw [h1];rfl)).trans h2,h3⟩
theorem RX (e : TypeId) (xs : List Value) (hx : 0 < xs.length) (old : Nat) (row : Option Nat) :
    BufAt (w.drew.alloc (.cells (xs.toArray++Builtin.zeroCells (Value.int .u8 0).cells (grownCap w xs.length old e - xs.length)) e)) e (.slice (some ⟨w.heap.size,0,none⟩) xs.length (grownCap w xs.length old e)) xs ∧
      w.grownBy (w.drew.alloc (.cells (xs.toArray++Builtin.zeroCells (Value.int .u8 0).cells (grownCap w xs.length old e - xs.length)) e)) row:=by
  have hge:=grownCap_ge w xs.length old e;refine ⟨.inr ⟨w.heap.size,_,_,rfl,heap_alloc_new w.drew _,by omega,hge,?_,?_⟩,⟨rfl,rfl,rfl,by simp,fun k hk _=>Lib.alloc_old w.drew _ k hk⟩⟩
  · have hz1:(Value.int IntKind.u8 0).cells.size=1:=rfl;simp only [Array.size_append,List.size_toArray,size_zeroCells,hz1];omega
  · simp only [Array.toList_append];exact List.take_left
theorem cq (t u ty e : TypeId) (i : TypeInfo) (ht : P.underlying t = some (.slice e)) (hu : P.underlying u = some .string) (hi : P.info? e = some i) (hz : i.zero = some (.int .u8 0))
    (hsize:i.size=1) (hby:i.bytes=1) (v:Value) (xs:List Value) (h:BufAt w e v xs) (s:ByteArray) (hb:xs.length+s.size≤140737488355328) :
    ∃ v' w',(Builtin.append_ #[t,u] ty #[v,.string s]).run P w=.ok v' w'∧BufAt w' e v' (xs++strCells s)∧w.grownBy w' v.ownBlock∧P8 w v v':=by
  have hlen:(xs++strCells s).length=xs.length+s.size:=by rw [List.length_append,strCells_length]
  rcases h with ⟨rfl,rfl⟩ | ⟨g,cap,cur,rfl,hg,hc0,hnc,hcs,htake⟩
  · by_cases hm:s.size=0
    · have hn:strCells s=[]:=List.eq_nil_of_length_eq_zero (by rw [strCells_length];exact hm);refine ⟨.slice none 0 0,w,?_,by rw [hn];exact .inl ⟨rfl,rfl⟩,⟨rfl,rfl,rfl,Nat.le_refl _,fun _ _ _=>rfl⟩,.inl rfl⟩;have hf:=run_firstCells_string (P:=P) w 1 s;rw [hm] at hf;simp [Builtin.append_,run_underlying ht,run_underlying hu,sizeOf,typeInfo,hi,hsize,Builtin.lenOf,hm,hf]
    · have hr:=run_append_nil_string (P:=P) w t u ty e i (.int .u8 0) ht hu hi hz s (by omega) (by simp at hb;omega) (by rw [hby];simp at hb;omega);have e1:(s.data.map fun b=>Value.int .u8 b.toNat)=(strCells s).toArray:=by
        apply Array.ext';simp [strCells]
      rw [e1] at hr;have hgr:=RX (w:=w) e (strCells s) (by rw [strCells_length];omega) 0 (Value.ownBlock (.slice none 0 0));rw [strCells_length] at hgr;simp only [List.nil_append] at hgr ⊢;exact ⟨_,_,hr,hgr.1,hgr.2,.inr ⟨_,rfl,Nat.le_refl _⟩⟩
  · by_cases hroom:xs.length+s.size≤cap
    · have hr:=run_append_room_string (P:=P) w t u ty e i ht hu hi hsize g xs.length cap cur hg s hroom (by omega);refine ⟨_,_,hr,.inr ⟨g,cap,_,by rw [hlen],setRow_heap w g cur _ e _ hg,hc0,by rw [hlen];exact hroom,?_,?_⟩,⟨rfl,rfl,rfl,by simp,fun k _ hk=>setRow_other w g k _ (fun e=>hk (by simp [Value.ownBlock,e]))⟩,.inl rfl⟩
      · simp only [List.size_toArray,List.length_append,List.length_take,List.length_drop,Array.length_toList,strCells_length];omega
      · simp only [];rw [htake,List.take_left]
    · have holds : ∀ j u, xs[j]? = some u → w.cell? ((⟨g, 0, none⟩ : Addr).add j) = some u := fun j u hj => by
        have hjl:j<xs.length:=(List.getElem?_eq_some_iff.1 hj).1;rw [← htake,List.getElem?_take] at hj;rw [if_pos hjl] at hj;rw [HR];simpa [World.cell?,hg] using hj
      have hr:=run_append_grow_string (P:=P) w t u ty e i (.int .u8 0) ht hu hi hz ⟨g,0,none⟩ xs.length cap xs (by rw [hsize];simp) holds s (by omega) (by omega) (by rw [hby];exact growslice_fits (by omega) (by omega));have hgr:=RX (w:=w) e (xs++strCells s) (by rw [hlen];omega) cap (Value.ownBlock (.slice (some ⟨g,0,none⟩) xs.length cap));rw [hlen] at hgr;rw [← List.append_toArray] at hgr;exact ⟨_,_,hr,hgr.1,hgr.2,.inr ⟨_,rfl,Nat.le_refl _⟩⟩
theorem Yk (t ty e : TypeId) (i : TypeInfo) (ht : P.underlying t = some (.slice e)) (hi : P.info? e = some i) (hz : i.zero = some (.int .u8 0))
    (hsize:i.size=1) (hby:i.bytes=1) (v:Value) (xs:List Value) (h:BufAt w e v xs) (a:Addr) (c:Nat) (news:List Value) (hn0:0<news.length) (hnews:∀ j u,news[j]?=some u→w.cell? (a.add j)=some u) (h1:∀ u∈news,u.oneCell'=true) (hb:xs.length+news.length≤140737488355328) :
    ∃ v' w',(Builtin.append_ #[t,t] ty #[v,.slice (some a) news.length c]).run P w=.ok v' w'∧BufAt w' e v' (xs++news)∧w.grownBy w' v.ownBlock∧P8 w v v':=by
  have hlen:(xs++news).length=xs.length+news.length:=List.length_append;have hl:news.length=news.length * i.size:=by rw [hsize,Nat.mul_one]
  rcases h with ⟨rfl,rfl⟩ | ⟨g,cap,cur,rfl,hg,hc0,hnc,hcs,htake⟩
  · have hr:=run_append_nil (P:=P) w t ty e i (.int .u8 0) ht hi hz a news.length c news hl hnews hn0 (by simp at hb;omega) (by rw [hby];simp at hb;omega);have hgr:=RX (w:=w) e news hn0 0 (Value.ownBlock (.slice none 0 0));simp only [List.nil_append] at hgr ⊢;exact ⟨_,_,hr,hgr.1,hgr.2,.inr ⟨_,rfl,Nat.le_refl _⟩⟩
  · by_cases hroom:xs.length+news.length≤cap
    · have hr:=run_append_room (P:=P) w t ty e i ht hi g xs.length cap cur hg a news.length c news hl hnews h1 hroom (by rw [hsize];omega);rw [hsize,Nat.mul_one] at hr;refine ⟨_,_,hr,.inr ⟨g,cap,_,by rw [hlen],setRow_heap w g cur _ e _ hg,hc0,by rw [hlen];exact hroom,?_,?_⟩,⟨rfl,rfl,rfl,by simp,fun k _ hk=>setRow_other w g k _ (fun e=>hk (by simp [Value.ownBlock,e]))⟩,.inl rfl⟩
      · simp only [List.size_toArray,List.length_append,List.length_take,List.length_drop,Array.length_toList];omega
      · simp only [];rw [htake,List.take_left]
    · have holds : ∀ j u, xs[j]? = some u → w.cell? ((⟨g, 0, none⟩ : Addr).add j) = some u := fun j u hj => by
        have hjl:j<xs.length:=(List.getElem?_eq_some_iff.1 hj).1;rw [← htake,List.getElem?_take] at hj;rw [if_pos hjl] at hj;rw [HR];simpa [World.cell?,hg] using hj
      have hr:=run_append_grow (P:=P) w t ty e i (.int .u8 0) ht hi hz ⟨g,0,none⟩ xs.length cap xs (by rw [hsize];simp) holds a news.length c news hl hnews (by omega) (by omega) (by rw [hby];exact growslice_fits (by omega) (by omega));have hgr:=RX (w:=w) e (xs++news) (by rw [hlen];omega) cap (Value.ownBlock (.slice (some ⟨g,0,none⟩) xs.length cap));rw [hlen] at hgr;rw [← List.append_toArray] at hgr;exact ⟨_,_,hr,hgr.1,hgr.2,.inr ⟨_,rfl,Nat.le_refl _⟩⟩
theorem Xd {ops : Array Oper} {rest : List Oper} {o : Oper} {a : Act} {Q : Exit → Act → World → Prop} (hgd : o.guard = none) (sl x : Operand) (t u : TypeId)
    (ho:o.op=.call { callee:=.builtin .append,args:=#[sl,x],argTypes:=#[t,u] })
    (e:TypeId) (i:TypeInfo) (ht:P.underlying t=some (.slice e)) (hu:P.underlying u=some .string) (hi:P.info? e=some i) (hz:i.zero=some (.int .u8 0))
    (hsize:i.size=1) (hby:i.bytes=1) (v:Value) (xs:List Value) (hs:a.eval sl=v) (hown:BufAt w e v xs) (s:ByteArray) (hx:a.eval x=.string s) (hb:xs.length+s.size≤140737488355328)
    (h:∀ v' w',BufAt w' e v' (xs++strCells s)→w.grownBy w' v.ownBlock→P8 w v v'→wpList P ops Q rest (a.put o.dst v') w'):wpList P ops Q (o::rest) a w:=by
  refine wpList_plain hgd fun K hK=>?_
  obtain ⟨v',w',hr,h2,h3,h4⟩:=cq (P:=P) (w:=w) t u o.type e i ht hu hi hz hsize hby v xs hown s hb;unfold Oper.wp execOp;simp only [ho,resolve,invoke,builtin,Sem.run_bind,Sem.run_pure,Result.andThen_ok,List.map_toArray,List.map_cons,List.map_nil,hs,hx,hr];exact hK _ _ (h v' w' h2 h3 h4)
theorem VX {ops : Array Oper} {rest : List Oper} {o : Oper} {a : Act} {Q : Exit → Act → World → Prop} (hgd : o.guard = none) (sl x : Operand) (t : TypeId)
    (ho:o.op=.call { callee:=.builtin .append,args:=#[sl,x],argTypes:=#[t,t] })
    (e:TypeId) (i:TypeInfo) (ht:P.underlying t=some (.slice e)) (hi:P.info? e=some i) (hz:i.zero=some (.int .u8 0))
    (hsize:i.size=1) (hby:i.bytes=1) (v:Value) (xs:List Value) (hs:a.eval sl=v) (hown:BufAt w e v xs) (ad:Addr) (m c:Nat) (news:List Value) (hx:a.eval x=.slice (some ad) m c) (hm:news.length=m) (hn0:0<m)
    (hnews:∀ j u,news[j]?=some u→w.cell? (ad.add j)=some u) (h1:∀ u∈news,u.oneCell'=true) (hb:xs.length+news.length≤140737488355328)
    (h:∀ v' w',BufAt w' e v' (xs++news)→w.grownBy w' v.ownBlock→P8 w v v'→wpList P ops Q rest (a.put o.dst v') w'):wpList P ops Q (o::rest) a w:=by
  subst hm;refine wpList_plain hgd fun K hK=>?_
  obtain ⟨v',w',hr,h2,h3,h4⟩:=Yk (P:=P) (w:=w) t o.type e i ht hi hz hsize hby v xs hown ad c news hn0 hnews h1 hb;unfold Oper.wp execOp;simp only [ho,resolve,invoke,builtin,Sem.run_bind,Sem.run_pure,Result.andThen_ok,List.map_toArray,List.map_cons,List.map_nil,hs,hx,hr];exact hK _ _ (h v' w' h2 h3 h4)
theorem ZW {e T:TypeId} {b:Nat} {v p x:Value} {bs:List Value} (h:BufAt w e v bs) (hb:w.heap[b]?=some (.cells #[p,x] T (0,0))) (hT:T≠e):v.ownBlock≠some b:=by
 rcases h with ⟨rfl,_⟩ | ⟨g,cap,cur,rfl,hg,_⟩
 ·simp [Value.ownBlock]
 ·intro h;simp only [Value.ownBlock,Option.some.injEq] at h;subst h;rw [hg] at hb;simp only [Option.some.injEq,Obj.cells.injEq] at hb;exact hT hb.2.1.symm
def jm (w:World) (T e:TypeId) (b:Nat) (v:Value) (bs:List Value) (w':World):Prop :=
 w'.heap[b]?=some (.cells #[.pointer (some ⟨b,0,none⟩),v] T (0,0))∧BufAt w' e v bs∧Rest w w' b none∧w'.heap.size=w.heap.size
theorem jx (T e : TypeId) (hT : T ≠ e) {b : Nat} {v v' : Value} {bs bs' : List Value} {w w1 w2 w3 : World} (h1 : jm w T e b v bs w1) (hal : w2 = w1 ∨ ∃ o, w2 = w1.alloc o) (hg : w2.grownBy w3 v.ownBlock) (hs : P8 w2 v v') (hb : BufAt w3 e v' bs') (hv : v.ownBlock ≠ some b) :
    P7 w T e b v bs' (w3.setCell ⟨b,1,none⟩ v'):=by
  obtain ⟨hbk,hbuf,hr,hsz⟩:=h1;have hlt:b<w1.heap.size:=A4 hbk;have h12:w1.heap.size≤w2.heap.size∧(∀ k,k<w1.heap.size→w2.heap[k]?=w1.heap[k]?)∧w2.os=w1.os∧w2.tape=w1.tape∧w2.output=w1.output:=by
    rcases hal with rfl | ⟨o,rfl⟩
    · exact ⟨Nat.le_refl _,fun _ _=>rfl,rfl,rfl,rfl⟩
    · exact ⟨by simp,fun k hk=>Lib.alloc_old w1 _ k hk,rfl,rfl,rfl⟩
  obtain ⟨s12,b12,o1,o2,o3⟩:=h12;have hb3:w3.heap[b]?=some (.cells #[.pointer (some ⟨b,0,none⟩),v] T (0,0)):=by rw [hg.block b (by omega) (fun e=>hv e.symm),b12 b hlt];exact hbk
  have hne:=ZW hb hb3 hT;have hset:(w3.setCell ⟨b,1,none⟩ v').heap.size=w3.heap.size:=by simp [World.setCell]
  refine ⟨v',by simp [World.setCell,Array.getElem?_modify,hb3],hb.kept (fun g hgg=>?_),⟨?_,?_,?_,?_,fun k hk hkb hkg=>?_⟩,?_⟩
  · exact Below.heap_setCell _ _ _ _ (fun e=>hne (by rw [hgg];simp at e;rw [e]))
  · exact (hg.os.trans o1).trans hr.os
  · exact (hg.tape.trans o2).trans hr.tape
  · exact (hg.output.trans o3).trans hr.output
  · have:=hg.size;rw [hset];omega
  · rw [Below.heap_setCell _ _ _ _ (fun e=>hkb (by simpa using e)),hg.block k (by omega) (fun e=>hkg e.symm),b12 k (by omega),hr.block k hk hkb (by simp)]
  · rcases hs with hs | ⟨g,h1,h2⟩
    · exact .inl hs
    · exact .inr ⟨g,h1,by omega⟩
theorem jY (w:World) (g n:Nat) (v:Value) (hv:v.ownBlock=some g):pf w v (w.drew.freeze ⟨g,0,none⟩ n):=by
 unfold World.freeze
 split
 ·exact ⟨rfl,rfl,rfl,Nat.le_refl _,fun _ _ _=>rfl⟩
 ·refine ⟨rfl,rfl,rfl,by simp,fun k hk hkv=>?_⟩;simp only [Array.getElem?_modify];rw [if_neg (fun e=>hkv (by rw [hv,e]))];rfl
end
end Go.Px
end
section
namespace Go.Px
open Go.Lib Go.Proofs Go.RowKit
theorem qG:(Tryz.prog.info? 5).map (fun i=>(i.zero,i.size,i.bytes))=some (some (.int .u8 0),1,1):=by kernel_rfl
set_option maxHeartbeats 1000000 in
set_option maxRecDepth 100000 in
theorem qj (b : Nat) (w : World) (h0 : w.cell? ⟨b, 0, none⟩ = some (.pointer (some ⟨b, 0, none⟩))) :
    Calls Tryz.prog 76 #[.pointer (some ⟨b,0,none⟩)] w fun e w'=>e=.returned (.tuple #[])∧w'=w:=by
  obtain ⟨j,hj,_⟩:=zzo.1 (show (Tryz.prog.info? 111).map (·.size)=some 2 by kernel_rfl)
  go_enter Tryz.func76,Tryz.ntmps76
  go_wp2
  rw [Lib.run_neq_ptr_same w _ Tryz.underlying108 hj]
  go_wp2
  go_end0
  exact ⟨rfl,rfl⟩
set_option maxHeartbeats 1000000 in
set_option maxRecDepth 100000 in
theorem pt (b : Nat) (w : World) (h0 : w.cell? ⟨b, 0, none⟩ = some (.pointer none)) (hsh : w.shape? b = some (111, 2)) (hfz : w.frozen? ⟨b, 0, none⟩ = false) :
    Calls Tryz.prog 76 #[.pointer (some ⟨b,0,none⟩)] w fun e w'=>e=.returned (.tuple #[])∧w'=w.setCell ⟨b,0,none⟩ (.pointer (some ⟨b,0,none⟩)):=by
  obtain ⟨j,hj,hjs⟩:=zzo.1 (show (Tryz.prog.info? 111).map (·.size)=some 2 by kernel_rfl)
  go_enter Tryz.func76,Tryz.ntmps76
  go_wp2
  rw [Lib.run_to_unsafe w ⟨b,0,none⟩ Tryz.underlying108 Tryz.underlying164 hj (by rw [hjs];decide) hsh (Nat.zero_lt_succ 1)];simp only [Result.andThen];rw [Oper.upon_value]
  go_wp2
  rw [run_callFunc_extern Tryz.func100 (by kernel_rfl) (by kernel_rfl) (by kernel_rfl) (e:=Extern.AbiNoEscape.same) (by kernel_rfl)];rw [Lib.run_noEscape];simp only [Result.andThen];rw [Oper.upon_value]
  go_wp2
  rw [Lib.run_from_unsafe w ⟨b,0,none⟩ Tryz.underlying164 Tryz.underlying108 hj hsh (by kernel_rfl)];simp only [Result.andThen];rw [Oper.upon_value]
  go_wp2
  go_end0
  exact ⟨rfl,rfl⟩
theorem bW (b : Nat) (v : Value) (bs : List Value) (w : World) (h : Pj w 111 5 b v bs) :
    Calls Tryz.prog 76 #[.pointer (some ⟨b,0,none⟩)] w fun e w'=>e=.returned (.tuple #[])∧jm w 111 5 b v bs w':=by
  obtain ⟨⟨p,hb,hp⟩,hbuf⟩:=h;have hne:=ZW hbuf hb (by decide);have c0:w.cell? ⟨b,0,none⟩=some p:=by rw [Lib.cell_of_heap hb];rfl
  rcases hp with rfl | rfl
  · refine (pt b w c0 (by simp [World.shape?,hb]) (Lib.frozen_of_heap hb 0)).mono ?_
    rintro e w' ⟨rfl,rfl⟩
    refine ⟨rfl,by simp [World.setCell,Array.getElem?_modify,hb],hbuf.kept (fun g hg=>?_),⟨rfl,rfl,rfl,by simp [World.setCell],fun k _ hk _=>?_⟩,by simp [World.setCell]⟩
    · exact Below.heap_setCell _ _ _ _ (fun e=>hne (by rw [hg];simp at e;rw [e]))
    · exact Below.heap_setCell _ _ _ _ (fun e=>hk (by simpa using e))
  · refine (qj b w c0).mono ?_
    rintro e w' ⟨rfl,rfl⟩
    exact ⟨rfl,hb,hbuf,⟨rfl,rfl,rfl,Nat.le_refl _,fun _ _ _ _=>rfl⟩,rfl⟩
set_option maxHeartbeats 2000000 in
set_option maxRecDepth 100000 in
theorem iL (b : Nat) (v : Value) (bs : List Value) (s : ByteArray) (w : World) (h : Pj w 111 5 b v bs) (hlen : bs.length + s.size ≤ 140737488355328) :
    Calls Tryz.prog 41 #[.pointer (some ⟨b,0,none⟩),.string s] w fun e w'=>e=.returned (.tuple #[.int .i64 s.size,.nilIface])∧P7 w 111 5 b v (bs++strCells s) w':=by
  obtain ⟨i0,hi,hz0,hz1,hz2⟩:=info_parts qG;have hne0:v.ownBlock≠some b:=by
    obtain ⟨⟨p,hb,hp⟩,hbuf⟩:=h;exact ZW hbuf hb (by decide)
  go_enter Tryz.func41,Tryz.ntmps41
  go_wp2_with (go_at_call 76;refine (bW b v bs _ h).mono ?_)
  rintro e w1 ⟨rfl,hck⟩
  have hbk:=hck.1;have hbuf:=hck.2.1;have c0:w1.cell? ⟨b,0,none⟩=some (.pointer (some ⟨b,0,none⟩)):=by rw [Lib.cell_of_heap hbk];rfl
  have c1:w1.cell? ⟨b,1,none⟩=some v:=by rw [Lib.cell_of_heap hbk];rfl
  go_wp2_with (at_builtin;refine Xd rfl _ _ 109 9 rfl 5 i0 Tryz.underlying109 Tryz.underlying9 hi hz0 hz1 hz2 v bs rfl hbuf s rfl hlen ?_)
  intro v' w2 hown' hgrow hsame;have hlt:b<w1.heap.size:=A4 hbk;have hb2:w2.heap[b]?=some (.cells #[.pointer (some ⟨b,0,none⟩),v] 111 (0,0)):=by
    rw [hgrow.block b hlt (fun e=>hne0 e.symm)];exact hbk
  have d0:w2.cell? ⟨b,0,none⟩=some (.pointer (some ⟨b,0,none⟩)):=by rw [Lib.cell_of_heap hb2];rfl
  have d1:w2.cell? ⟨b,1,none⟩=some v:=by rw [Lib.cell_of_heap hb2];rfl
  have f1:w2.frozen? ⟨b,1,none⟩=false:=Lib.frozen_of_heap hb2 1;have hw:=jx 111 5 (by decide) hck (.inl rfl) hgrow hsame hown' hne0;obtain ⟨ao,n',cap,rfl⟩:∃ ao n' cap,v'=.slice ao n' cap:=by
    rcases hown' with ⟨hv,_⟩ | ⟨g,cap,cur,hv,_⟩
    · exact ⟨_,_,_,hv⟩
    · exact ⟨_,_,_,hv⟩
  go_wp2
  go_ret2
  exact ⟨rfl,hw⟩
set_option maxHeartbeats 2000000 in
set_option maxRecDepth 100000 in
theorem l8 (b : Nat) (v : Value) (bs : List Value) (c : Int) (w : World) (h : Pj w 111 5 b v bs) (hlen : bs.length + 1 ≤ 140737488355328) :
    Calls Tryz.prog 44 #[.pointer (some ⟨b,0,none⟩),.int .u8 c] w fun e w'=>e=.returned .nilIface∧P7 w 111 5 b v (bs++[.int .u8 c]) w':=by
  obtain ⟨i0,hi,hz0,hz1,hz2⟩:=info_parts qG;have hne0:v.ownBlock≠some b:=by
    obtain ⟨⟨p,hb,hp⟩,hbuf⟩:=h;exact ZW hbuf hb (by decide)
  go_enter Tryz.func44,Tryz.ntmps44
  go_wp2_with (go_at_call 76;refine (bW b v bs _ h).mono ?_)
  rintro e w1 ⟨rfl,hck⟩
  have hbk:=hck.1;have hbuf:=hck.2.1;have hlt:b<w1.heap.size:=A4 hbk;have c0:w1.cell? ⟨b,0,none⟩=some (.pointer (some ⟨b,0,none⟩)):=by rw [Lib.cell_of_heap hbk];rfl
  have c1:w1.cell? ⟨b,1,none⟩=some v:=by rw [Lib.cell_of_heap hbk];rfl
  go_wp2_with (at_builtin;refine VX rfl _ _ 109 rfl 5 i0 Tryz.underlying109 hi hz0 hz1 hz2 v bs rfl ?c0 ⟨w1.heap.size,0,none⟩ 1 1 [.int .u8 c] rfl rfl Nat.one_pos ?c1 ?c2 hlen ?_)
  case c0 =>
    refine hbuf.kept fun g hg=>?_
    refine Lib.alloc_old w1 _ g ?_
    rcases hbuf with ⟨rfl,_⟩ | ⟨g',cap,cur,rfl,hgg,_⟩
    · simp [Value.ownBlock] at hg
    · simp only [Value.ownBlock,Option.some.injEq] at hg;subst hg;exact A4 hgg
  case c1 =>
    intro j u hj
    match j,hj with
    | 0,hj=>simp at hj;subst hj;simp [Addr.add]
  case c2=>intro u hu;simp at hu;subst hu;rfl
  intro v' w2 hown' hgrow hsame;have hb2:w2.heap[b]?=some (.cells #[.pointer (some ⟨b,0,none⟩),v] 111 (0,0)):=by
    rw [hgrow.block b (by simp;omega) (fun e=>hne0 e.symm),Lib.alloc_old w1 _ b hlt];exact hbk
  have d0:w2.cell? ⟨b,0,none⟩=some (.pointer (some ⟨b,0,none⟩)):=by rw [Lib.cell_of_heap hb2];rfl
  have d1:w2.cell? ⟨b,1,none⟩=some v:=by rw [Lib.cell_of_heap hb2];rfl
  have f1:w2.frozen? ⟨b,1,none⟩=false:=Lib.frozen_of_heap hb2 1;have hw:=jx 111 5 (by decide) hck (.inr ⟨_,rfl⟩) hgrow hsame hown' hne0;obtain ⟨ao,n',cap,rfl⟩:∃ ao n' cap,v'=.slice ao n' cap:=by
    rcases hown' with ⟨hv,_⟩ | ⟨g,cap,cur,hv,_⟩
    · exact ⟨_,_,_,hv⟩
    · exact ⟨_,_,_,hv⟩
  go_wp2
  go_ret
  exact ⟨rfl,hw⟩
set_option maxHeartbeats 1000000 in
set_option maxRecDepth 100000 in
theorem jT (b : Nat) (v : Value) (l : List UInt8) (w : World) (h : Pj w 111 5 b v (Lib.byteCells l)) (hl63 : l.length ≤ 9223372036854775807) :
    Calls Tryz.prog 45 #[.pointer (some ⟨b,0,none⟩)] w fun e w'=>e=.returned (.string ⟨l.toArray⟩)∧pf w v w':=by
  obtain ⟨⟨p,hbk,hp⟩,hbuf⟩:=h;have c1:w.drew.cell? ⟨b,1,none⟩=some v:=by
    have:w.drew.heap[b]?=some (.cells #[p,v] 111 (0,0)):=hbk;rw [Lib.cell_of_heap this];rfl
  have mixed:Tryz.prog.follows .mixedOrders=true:=by kernel_rfl
  rcases hbuf with ⟨rfl,hl⟩ | ⟨g,cap,cur,rfl,hg,hc0,hnc,hcs,htake⟩
  · have hl:l=[]:=by simpa [Lib.byteCells] using hl
    subst hl;have hUS:∀ (W:World) (q:Option Addr),(Builtin.unsafeString_ #[146,3] 9 #[.pointer q,.int .i64 0]).run Tryz.prog W=.ok (.string .empty) W:=fun W q=>Lib.run_unsafeString_none W _ _ _ q
    have hSD:(Builtin.unsafeSliceData_ #[109] 146 #[.slice none 0 0]).run Tryz.prog w.drew=.ok (.pointer none) w.drew:=rfl
    go_enter Tryz.func45,Tryz.ntmps45
    go_wp2
    go_region_o
    all_goals (go_wp2;go_ret;exact ⟨rfl,rfl,rfl,rfl,Nat.le_refl _,fun _ _ _=>rfl⟩)
  · rw [Lib.byteCells_length] at hnc c1;have hSD:(Builtin.unsafeSliceData_ #[109] 146 #[.slice (some ⟨g,0,none⟩) l.length cap]).run Tryz.prog w.drew=.ok (.pointer (some ⟨g,0,none⟩)) w.drew :=
      Lib.run_unsafeSliceData_row _ _ _ _ _ _ (by omega)
    by_cases h0:l=[]
    · subst h0;have hUS:∀ (W:World) (q:Option Addr),(Builtin.unsafeString_ #[146,3] 9 #[.pointer q,.int .i64 0]).run Tryz.prog W=.ok (.string .empty) W:=fun W q=>Lib.run_unsafeString_none W _ _ _ q
      simp only [List.length_nil] at c1 hSD;clear hc0
      go_enter Tryz.func45,Tryz.ntmps45
      go_wp2
      go_region_o
      all_goals (go_wp2;go_ret;exact ⟨rfl,rfl,rfl,rfl,Nat.le_refl _,fun _ _ _=>rfl⟩)
    · have hUS : (Builtin.unsafeString_ #[146, 3] 9 #[.pointer (some ⟨g, 0, none⟩), .int .i64 l.length]).run Tryz.prog w.drew = .ok (.string ⟨l.toArray⟩) (w.drew.freeze ⟨g, 0, none⟩ l.length) := by
        refine Lib.run_unsafeString_row w.drew 146 3 9 5 Tryz.underlying146 (by kernel_rfl) g cur.size (by have hg':w.drew.heap[g]?=some (.cells cur 5 (0,0)):=hg;simp [World.shape?,hg']) l h0 (by omega) hl63 ?_;intro j x hx;have hj:j<l.length:=(List.getElem?_eq_some_iff.1 hx).1;have h1:(Lib.byteCells l)[j]?=some (.int .u8 x.toNat):=by simp [Lib.byteCells,hx]
        rw [← htake,List.getElem?_take,if_pos (by rw [Lib.byteCells_length];exact hj)] at h1;have hg':w.drew.heap[g]?=some (.cells cur 5 (0,0)):=hg;rw [HR];simpa [World.cell?,hg'] using h1
      have hrd:=fun n=>jY w g n (.slice (some ⟨g,0,none⟩) (Lib.byteCells l).length cap) rfl
      go_enter Tryz.func45,Tryz.ntmps45
      go_wp2
      go_region_o
      all_goals (go_wp2;go_ret;exact ⟨rfl,hrd _⟩)
def oX:List Bld:=[⟨41,0,111,5⟩,⟨44,1,111,5⟩,⟨45,2,111,5⟩]
theorem sV:∀ b∈oX,Pk Tryz.prog b:=fun b h=>by
 simp only [oX,List.mem_cons,List.not_mem_nil,or_false] at h
 rcases h with rfl | rfl | rfl
 ·exact fun n v bs s w h hl=>iL n v bs s w h hl
 ·exact fun n v bs c w h hl=>l8 n v bs c w h hl
 ·exact fun n v l w h hl=>jT n v l w h hl
end Go.Px
end
