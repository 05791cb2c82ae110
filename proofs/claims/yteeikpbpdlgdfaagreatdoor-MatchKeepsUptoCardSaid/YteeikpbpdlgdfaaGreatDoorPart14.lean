/- Part 14. -/
import Derived.Test.YteeikpbpdlgdfaaGreatDoorPart09
set_option linter.unusedVariables false
set_option linter.unusedSimpArgs false
namespace Go.Px
section
variable {P:Program} {a:Act} {w w':World} {ops:Array Oper} {Q:Exit→Act→World→Prop} {i:Nat} {rest:List Nat} {o:Oper}
theorem AK {d:Nat} (ho:ops[i]?=some o) (hg:o.guard=none) (hd:o.dst=some d) {v:Value} (hx:(execOp a.eval o).run P w=.ok (.value v) w') (hK:wpOps P ops Q rest (a.put (some d) v) w'):wpOps P ops Q (i::rest) a w:=by
 rw [wpOps_cons];unfold wpOp;simp only [ho,Region.wanted,hg,if_true];refine .inl ?_;unfold Oper.wp;rw [hx];rw [← hd] at hK;exact hK
theorem FZ (ho:ops[i]?=some o) (hg:o.guard=none) (hd:o.dst=none) (hx:(execOp a.eval o).run P w=.ok .skip w') (hK:wpOps P ops Q rest a w'):wpOps P ops Q (i::rest) a w:=by
 rw [wpOps_cons];unfold wpOp;simp only [ho,Region.wanted,hg,if_true];refine .inl ?_;unfold Oper.wp;rw [hx];show wpOps P ops Q rest (a.put o.dst undef) w';rw [hd];exact hK
theorem HY {d : Nat} (ho : ops[i]? = some o) (hg : o.guard = none) (hd : o.dst = some d) {f : FuncId} {args : Array Value} (hx : (execOp a.eval o).run P w = .ok (.enter f args) w)
    (hc:Calls P f args w fun e w'=>∃ v,e=.returned v∧wpOps P ops Q rest (a.put (some d) v) w'):wpOps P ops Q (i::rest) a w:=by
  rw [wpOps_cons];unfold wpOp;simp only [ho,Region.wanted,hg,if_true];refine .inl ?_;unfold Oper.wp;rw [hx];refine Calls.mono hc (fun e w' hp=>?_);obtain ⟨v,rfl,hk⟩:=hp;rw [← hd] at hk;exact hk
theorem Ax (h:Q .normal a w):wpOps P ops Q [] a w:=h
variable {d:Option Tmp} {t:TypeId} {p:String} {af:Array Edge} {g:Option (Nat×Bool)} {x y:Operand}
theorem Mt {f : FuncId} {fn : Func} {args : Array Operand} {tys : Array TypeId} (hfn : P.funcs[f]? = some fn) (hname : (fn.name == "runtime.NumGoroutine") = false) (hb : fn.body.isNone = false) :
    (execOp a.eval ⟨d,.call ⟨.value (.func f),args,tys⟩,t,p,af,g⟩).run P w=.ok (.enter f (args.map a.eval)) w:=by
  simp only [beq_eq_false_iff_ne,ne_eq] at hname;have e:a.eval (.func f)=.func (.func f) #[] #[]:=rfl;simp [execOp,resolve,Deferred.ofValue,e,invoke,callFunc,hfn,hname,hb];intro h;rw [h] at hb;cases hb
theorem cB {b:Bool} {T:TypeId} (hx:a.eval x=.bool b):(execOp a.eval ⟨d,.unOp .not T x,t,p,af,g⟩).run P w=.ok (.value (.bool !b)) w :=
 Ay (x:=Op.unary .not (a.eval x)) (by simp [execOp]) (by rw [hx];rfl)
def B3 (P:Program) (T:TypeId) (f k:Nat):Prop:=(match F2 P T f with | some fd=>Nat.beq fd.offset k && !(Nat.beq (P.cellsOf fd.type) 0) | none=>false)=true
theorem Bg {T : TypeId} {f b o k : Nat} (h : B3 P T f k) (hx : a.eval x = .pointer (some ⟨b, o, none⟩)) :
    (execOp a.eval ⟨d,.fieldAddr T x f,t,p,af,g⟩).run P w=.ok (.value (.pointer (some ⟨b,o+k,none⟩))) w:=by
  obtain ⟨fd,h1,rfl,h2⟩:∃ fd,F2 P T f=some fd∧fd.offset=k∧Nat.beq (P.cellsOf fd.type) 0=false:=by
    unfold B3 at h
    split at h
    · rename_i fd hfd;rw [zzk,Bool.not_eq_true'] at h;exact ⟨fd,hfd,AD.1 h.1,h.2⟩
    · cases h
  exact Ay (x:=Instr.fieldAt T (a.eval x) f) (by simp [execOp]) (by rw [hx];exact Rd h1 (A2.1 h2))
theorem B2 {T : TypeId} {ds : TypeDesc} (hu : P.underlying T = some ds) (hag : AN P T = false) {ad : Addr} {v : Value} (hx : a.eval x = .pointer (some ad)) (hc : w.cell? ad = some v) :
    (execOp a.eval ⟨d,.load T x,t,p,af,g⟩).run P w=.ok (.value v) w :=
  Ay (x:=Instr.loadAt T (a.eval x)) (by simp [execOp]) (by simp [Instr.loadAt,hx,Instr.sureAddr,loadVar,CM hu,hag,run_load,hc])
theorem HO {T : TypeId} {ds : TypeDesc} (hu : P.underlying T = some ds) (hag : AN P T = true) {b o : Nat} {vs : List Value} (hx : a.eval x = .pointer (some ⟨b, o, none⟩)) (hn : vs.length = P.cellsOf T)
    (hc:∀ j v,vs[j]?=some v→w.cell? ⟨b,o+j,none⟩=some v):(execOp a.eval ⟨d,.load T x,t,p,af,g⟩).run P w=.ok (.value (.agg vs.toArray)) w:=by
  obtain ⟨i,hi⟩:=BL hu;have hl:=run_loadCells_list (P:=P) w ⟨b,o,none⟩ vs (fun j v hj=>by rw [DD];exact hc j v hj);rw [hn] at hl;exact Ay (x:=Instr.loadAt T (a.eval x)) (by simp [execOp]) (by simp [Instr.loadAt,hx,Instr.sureAddr,loadVar,CM hu,hag,As hi,hl])
theorem C2 {T e : TypeId} {ts : List TypeId} {b o len cap : Nat} {n : Int} (hu : P.underlying T = some (.slice e)) (hts : AM P e = some ts) (hx : a.eval x = .slice (some ⟨b, o, none⟩) len cap) (hy : a.eval y = .int .i64 n) (h0 : 0 ≤ n) (h1 : n < (len : Int)) :
    (execOp a.eval ⟨d,.indexAddr T x y,t,p,af,g⟩).run P w=.ok (.value (.pointer (some ⟨b,o+n.toNat * ts.length,none⟩))) w:=by
  obtain ⟨hsz,hpos⟩:=BO hts;obtain ⟨ti,hti⟩:=B8 (P:=P) (t:=e) (by omega);exact Ay (x:=Instr.indexAt T (a.eval x) (a.eval y)) (by simp [execOp]) (by rw [hx,hy];simp [Instr.indexAt,DC,run_underlying hu,h0,h1,As hti,DD,hsz])
theorem V7 {T e : TypeId} {ad : Option Addr} {len cap : Nat} (hu : P.underlying T = some (.slice e)) (hx : a.eval x = .slice ad len cap) :
    (execOp a.eval ⟨d,.call ⟨.builtin .len,#[x],#[T]⟩,t,p,af,g⟩).run P w=.ok (.value (.int .i64 len)) w :=
  Ay (x:=Builtin.len_ #[T] t #[a.eval x]) (by simp [execOp,resolve,invoke,builtin]) (by simp [Builtin.len_,run_underlying hu,hx,goInt])
theorem Kr {T yT : TypeId} {k : IntKind} {n m : Int} (hx : a.eval x = .int k n) (hy : a.eval y = .int k m) :
    (execOp a.eval ⟨d,.binOp .add T x y yT,t,p,af,g⟩).run P w=.ok (.value (.int k (k.wrap (n+m)))) w :=
  Ay (x:=do eqGuard .add T x y (a.eval x) (a.eval y);binOp .add T (a.eval x) (a.eval y)) (by simp [execOp]) (by
    rw [hx,hy];exact AX (B7 _ _ _ _ _ _ rfl (by simp)) (by rw [Sv _ _ _ _ _ ⟨by simp,by simp⟩];rfl))
theorem Yt {T yT : TypeId} {k : IntKind} {n m : Int} (hx : a.eval x = .int k n) (hy : a.eval y = .int k m) :
    (execOp a.eval ⟨d,.binOp .lss T x y yT,t,p,af,g⟩).run P w=.ok (.value (.bool (decide (n<m)))) w :=
  Ay (x:=do eqGuard .lss T x y (a.eval x) (a.eval y);binOp .lss T (a.eval x) (a.eval y)) (by simp [execOp]) (by
    rw [hx,hy];exact AX (B7 _ _ _ _ _ _ rfl (by simp)) (by rw [Sv _ _ _ _ _ ⟨by simp,by simp⟩];rfl))
theorem eR {T:TypeId} {v:Value} (hx:a.eval x=v):(execOp a.eval ⟨d,.box T x,t,p,af,g⟩).run P w=.ok (.value (.pointer (some ⟨w.heap.size,0,none⟩))) (w.alloc (.cells v.cells T)) :=
 ER (x:=Instr.box T (a.eval x)) (by simp [execOp]) (by rw [hx];simp [Instr.box,newVar,newRow])
theorem UM {T : TypeId} {b o : Nat} {cells : Array Value} {el : TypeId} {v : Value} {us : List Value} (hx : a.eval x = .pointer (some ⟨b, o, none⟩)) (hy : a.eval y = v) (hv : v.cells.toList = us) (hlen : us.length = P.cellsOf T) (hpos : 0 < us.length)
    (hheap:w.heap[b]?=some (.cells cells el (0,0))) (hfit:o+us.length≤cells.size) (hone:∀ u∈us,u.oneCell'=true) :
    (execOp a.eval ⟨d,.store T x y,t,p,af,g⟩).run P w=.ok .skip (w.setRow b (laid cells o us)):=by
  have:=Ey (P:=P) (T:=T) (w:=w) (el:=el) hv hlen hpos hheap hfit hone;simp [execOp,hx,hy,this]
theorem NC {T : TypeId} {ad : Addr} {v u : Value} (hx : a.eval x = .pointer (some ad)) (hy : a.eval y = v) (hv : v.oneCell' = true) (h1 : P.cellsOf T = 1) (hc : w.cell? ad = some u) (hf : w.frozen? ad = false) :
    (execOp a.eval ⟨d,.store T x y,t,p,af,g⟩).run P w=.ok .skip (w.setCell ad v):=by
  obtain ⟨ti,hi,hsz⟩:=Pz (P:=P) (T:=T) (by omega);have hst:(store ad v).run P w=.ok () (w.setCell ad v):=by rw [run_store P w ad v _ hv,hc];simp [hf]
  have ha0:ad.add 0=ad:=by simp [Addr.add]
  have:(Instr.storeAt T (.pointer (some ad)) v).run P w=.ok () (w.setCell ad v):=by
    simp [Instr.storeAt,Instr.sureAddr,storeVar,sizeOf,typeInfo,hi,Al hv,hsz,h1,storeCells,ha0,hst]
  simp [execOp,hx,hy,this]
theorem YC {T:TypeId} {ti:TypeInfo} {z:Value} (hi:P.info? T=some ti) (hz:ti.zero=some z):(execOp a.eval ⟨d,.alloc T,t,p,af,g⟩).run P w=.ok (.value (.pointer (some ⟨w.heap.size,0,none⟩))) (w.alloc (.cells z.cells T)) :=
 ER (x:=Instr.alloc T true (.tuple #[])) (by simp [execOp]) (by simp [Instr.alloc,zeroValue,typeInfo,hi,hz,newVar,newRow])
theorem Ps {cells:Array Value} {us:List Value} (h:cells.size=us.length):laid cells 0 us=us.toArray:=by
 unfold laid;rw [List.take_zero,List.nil_append,Nat.zero_add,List.drop_eq_nil_of_le (by rw [Array.length_toList];omega),List.append_nil]
def eP (v v':Value):Prop:=v'=v∨∃ k n n',v=.int k n∧v'=.int k n'
structure Bump (n1:Nat) (w w':World):Prop where
 os:w'.os=w.os
 tape:w'.tape=w.tape
 output:w'.output=w.output
 size:w'.heap.size=w.heap.size
 old:∀ b,b<n1→w'.heap[b]?=w.heap[b]?
 fro:∀ ad,w'.frozen? ad=w.frozen? ad
 cell:∀ ad v,w.cell? ad=some v→∃ v',w'.cell? ad=some v'∧eP v v'
theorem Bump.refl (n1:Nat) (w:World):Bump n1 w w:=⟨rfl,rfl,rfl,rfl,fun _ _=>rfl,fun _=>rfl,fun _ v h=>⟨v,h,.inl rfl⟩⟩
theorem Bump.slice {n1:Nat} (h:Bump n1 w w') {ad:Addr} {x:Option Addr} {n c:Nat} (hc:w.cell? ad=some (.slice x n c)):w'.cell? ad=some (.slice x n c):=by
 obtain ⟨v,h1,h2⟩:=h.cell _ _ hc
 rcases h2 with rfl | ⟨_,_,_,h2,_⟩
 ·exact h1
 ·cases h2
theorem Bump.int {n1:Nat} (h:Bump n1 w w') {ad:Addr} {k:IntKind} {n:Int} (hc:w.cell? ad=some (.int k n)):∃ m,w'.cell? ad=some (.int k m):=by
 obtain ⟨v,h1,h2⟩:=h.cell _ _ hc
 rcases h2 with rfl | ⟨_,_,m,h2,rfl⟩
 ·exact ⟨n,h1⟩
 ·cases h2;exact ⟨m,h1⟩
theorem Bump.set {n1:Nat} (h:Bump n1 w w') {ad:Addr} {k:IntKind} {n:Int} (hb:n1≤ad.block) (hc:w.cell? ad=some (.int k n)) (m:Int):Bump n1 w (w'.setCell ad (.int k m)):=by
 have hsp:ad.spot=none:=by
  obtain ⟨b,o,sp⟩:=ad;exact World.cell?_spot hc
 have hx:∀ b,(w'.setCell ad (.int k m)).heap[b]?=if ad.block=b then (w'.heap[b]?).map (fun | .cells c e f=>.cells (c.setIfInBounds ad.off (.int k m)) e f | o=>o) else w'.heap[b]?:=fun b=>by
  unfold World.setCell;simp only [Array.getElem?_modify,hsp];rfl
 refine ⟨h.os,h.tape,h.output,?_,fun b hlt=>?_,fun a2=>?_,fun a2 v hv=>?_⟩
 ·rw [← h.size];simp [World.setCell]
 ·rw [hx,if_neg (by omega)];exact h.old b hlt
 ·rw [← h.fro];unfold World.frozen?;rw [hx]
  by_cases e:ad.block=a2.block
  ·rw [if_pos e];cases w'.heap[a2.block]? with
   | none=>rfl
   | some o=>cases o<;>rfl
  ·rw [if_neg e]
 ·obtain ⟨v',h1,h2⟩:=h.cell a2 v hv;have hsp2:a2.spot=none:=by
   obtain ⟨b,o,sp⟩:=a2;exact World.cell?_spot hv
  unfold World.cell? at h1 ⊢;rw [hx]
  by_cases e:ad.block=a2.block
  ·rw [if_pos e];cases ho:w'.heap[a2.block]? with
   | none=>rw [ho] at h1;simp at h1
   | some ob =>
    rw [ho] at h1;cases ob with
    | cells c el f =>
     simp only [hsp2,Option.map_some] at h1 ⊢
     by_cases e2:ad.off=a2.off
     ·have e3:ad=a2:=by
       obtain ⟨b,o,sp⟩:=ad;obtain ⟨b',o',sp'⟩:=a2;simp only at e e2 hsp hsp2;rw [e,e2,hsp,hsp2]
      subst e3;rw [hc] at hv;cases hv;have hlt:ad.off<c.size:=(Array.getElem?_eq_some_iff.1 h1).1;exact ⟨.int k m,by simp [hlt],.inr ⟨k,n,m,rfl,rfl⟩⟩
     ·exact ⟨v',by rw [Array.getElem?_setIfInBounds_ne e2];exact h1,h2⟩
    | _=>simp at h1
  ·rw [if_neg e];exact ⟨v',h1,h2⟩
theorem Bump.grow {w0:World} {n1:Nat} (h:Bump n1 w w') (g:Grow w0 w) (hn:w0.heap.size≤n1):Grow w0 w' :=
 ⟨h.os.trans g.os,h.tape.trans g.tape,h.output.trans g.output,by rw [h.size];exact g.size,fun b hb=>(h.old b (by omega)).trans (g.old b hb)⟩
theorem AB {d n:Nat} {v:Value}:(a.put (some d) v).tmps.getD n undef=if n=d∧d<a.tmps.size then v else a.tmps.getD n undef:=by
 by_cases h:n=d
 ·subst h
  by_cases h2:n<a.tmps.size
  ·rw [if_pos ⟨rfl,h2⟩];exact Dy h2
  ·rw [if_neg (fun h=>h2 h.2)];simp [Act.put,Array.getD_eq_getD_getElem?,h2]
 ·rw [if_neg (fun e=>h e.1)];exact Ba h
theorem AA {d:Option Nat} {v:Value}:(a.put d v).tmps.size=a.tmps.size:=by cases d<;>simp [Act.put]
theorem C9 {d:Option Nat} {v:Value}:(a.put d v).defers=a.defers:=by cases d<;>rfl
theorem AH {n:Nat}:a.eval (.tmp n)=a.tmps.getD n undef:=rfl
end
end Go.Px
