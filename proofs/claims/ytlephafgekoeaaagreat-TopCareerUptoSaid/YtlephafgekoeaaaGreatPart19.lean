/- Part 19. -/
import Derived.Test.YtlephafgekoeaaaGreatPart08
import Derived.ProofKit
import Derived.OpenShut
import Derived.JoinedCond
import Derived.WideKeyArgs
import Derived.Stop.LaidErr
import Derived.Test.YtlephafgekoeaaaGreatPart17
set_option linter.unusedVariables false
set_option linter.unusedSimpArgs false
section
namespace Go.Px
open Go.ChangeShapes Go.WideShapes Go.ChangeAt Go.RowKit
inductive PVok (P:Program) (B:Nat):TypeId→PV→Prop
  |int {t:TypeId} {k:IntKind} {n:Int} (h:AK P t=.int k) (hw:(Lit.int k n).wf=true):PVok P B t (.int n)
  |bool {t:TypeId} {b:Bool} (h:AK P t=.bool):PVok P B t (.bool b)
  |str {t:TypeId} {s:ByteArray} (h:AK P t=.str) (hs:s.size≤B):PVok P B t (.str s)
  | sl {t e:TypeId} {ts:List TypeId} {l:Rows} (h:AK P t=.sl e) (hts:AW P e=some ts) (hl:l.length≤B) (hr:∀ r∈l,r.length=ts.length)
      (hv:∀i j t',i<l.length→ts[j]?=some t'→PVok P B t' (AD l i j)):PVok P B t (.rows l)
def PVoks (P:Program) (B:Nat):List TypeId→List PV→Prop
 | [],[]=>True
 |t::ts,p::ps=>PVok P B t p∧PVoks P B ts ps
 |_,_=>False
def Rds (P:Program) (w:World) (B:Nat):List TypeId→List Value→List PV→Prop
 | [],[],[]=>True
 |t::ts,v::vs,p::ps=>(Rep P w (fun _=>True) t v p∧PVok P B t p)∧Rds P w B ts vs ps
 |_,_,_=>False
structure Bulk {H:Type} (f:DataW H→Nat):Prop where
 str:∀b,b.length≤f (.lit (.string b))
 len:∀e s,e.length≤f (.slice e s)
 elem:∀e s d,d∈e→f d≤f (.slice e s)
 part:∀ps d,d∈ps→f d≤f (.agg ps)
def Sp (P:Program) (m:Nat):Nat→List Field→Bool
 |_,[]=>true
 |off,f::fs=>Nat.beq f.offset off&&(match CU P m f.type with|some l=>Nat.beq l.length (P.cellsOf f.type)|none=>false)&&Sp P m (off+P.cellsOf f.type) fs
def cN (P:Program) (m:Nat) (t:TypeId):Bool:=match CU P m t with
 |some l=>Nat.beq l.length (P.cellsOf t)
 |none=>false
def Eh (P:Program):Nat→Nat→TypeId→Bool
 |0,_,_=>false
 |n+1,m,t=>match P.underlying t with
  |some .bool|some (.int _)|some .string=>true
  |some (.slice e)=>((AW P e).isSome&&(!Hl P e&&Nat.blt e ptB))&&Eh P n Dy e
  |some (.struct fs)=>match m with
   |0=>false
   |m+1=>cN P (m+1) t&&(Sp P m 0 fs.toList&&fs.toList.all fun f=>Eh P n m f.type)
  |some (.array k e)=>match m with
   |0=>false
   |m+1=>cN P (m+1) t&&(cN P m e&&Eh P n m e)
  |_=>false
section
variable {P:Program} {w w':World} {B:Nat} {H:Type} {enc:TypeId×Value→H}
theorem Rds.len:∀{ts:List TypeId} {vs:List Value} {ps:List PV},Rds P w B ts vs ps→vs.length=ts.length∧ps.length=ts.length
 | [],[],[],_=>⟨rfl,rfl⟩
 |t::ts,v::vs,p::ps,h=>by obtain⟨h1,h2⟩:=Rds.len h.2;simp[h1,h2]
 | [],[],_::_,h=>h.elim
 | [],_::_,_,h=>h.elim
 |_::_,[],_,h=>h.elim
 |_::_,_::_,[],h=>h.elim
theorem Rds.app:∀{ts ts':List TypeId} {vs vs':List Value} {ps ps':List PV},Rds P w B ts vs ps→Rds P w B ts' vs' ps'→Rds P w B (ts++ts') (vs++vs') (ps++ps')
 | [],_,[],_,[],_,_,h=>h
 |t::ts,_,v::vs,_,p::ps,_,h,h'=>⟨h.1,Rds.app h.2 h'⟩
 | [],_,[],_,_::_,_,h,_=>h.elim
 | [],_,_::_,_,_,_,h,_=>h.elim
 |_::_,_,[],_,_,_,h,_=>h.elim
 |_::_,_,_::_,_,[],_,h,_=>h.elim
theorem Rds.get:∀{ts:List TypeId} {vs:List Value} {ps:List PV},Rds P w B ts vs ps→∀{j:Nat} {t:TypeId},ts[j]?=some t→∃v p,vs[j]?=some v∧ps[j]?=some p∧Rep P w (fun _=>True) t v p∧PVok P B t p
 | [],[],[],_,j,t,h=>by simp at h
 |u::ts,v::vs,p::ps,h,j,t,hj=>by
  cases j with
  |zero=>simp at hj;subst hj;exact⟨v,p,rfl,rfl,h.1.1,h.1.2⟩
  |succ j =>
   obtain⟨v',p',h1,h2,h3⟩:=Rds.get h.2 (j:=j) (by simpa using hj);exact⟨v',p',by simpa using h1,by simpa using h2,h3⟩
 | [],[],_::_,h,_,_,_=>h.elim
 | [],_::_,_,h,_,_,_=>h.elim
 |_::_,[],_,h,_,_,_=>h.elim
 |_::_,_::_,[],h,_,_,_=>h.elim
theorem AAu {a:Addr} {v:Value} (h:w.cell? a=some v):a.block<w.heap.size:=by
 rcases Nat.lt_or_ge a.block w.heap.size with h'|h'
 ·exact h'
 unfold World.cell? at h;simp[Array.getElem?_eq_none h']at h
theorem yJ {a:Option (List TypeId)} {r:List (Option (List TypeId))} {ts:List TypeId} (h:P6 (a::r)=some ts):∃l ts',a=some l∧P6 r=some ts'∧ts=l++ts':=by
 cases a with
 |none=>simp[P6]at h
 |some l =>
  simp only[P6]at h;cases hr:P6 r with
  |none=>rw[hr]at h;cases h
  |some ts'=>rw[hr]at h;cases h;exact⟨l,ts',rfl,rfl,rfl⟩
theorem sX {f:DataW H→Nat} (hb:Bulk f):∀ (n:Nat) (t:TypeId) (cs:List Value) (x:DataW H×List MemPlace),DataW.trod enc P w 0 (fun _=>true) true n t cs=some x→f x.1≤B →
    ∀(k m:Nat) (ts:List TypeId),Eh P k m t=true→CU P m t=some ts→∃ps,Rds P w B ts cs ps:=by
  intro n
  induction n with
  |zero=>intro t cs x h;simp[DataW.trod]at h
  |succ n ih =>
    intro t cs x h hB k m ts hg hc;cases k with
    |zero=>simp[Eh]at hg
    |succ k =>
    cases m with
    |zero=>simp[CU]at hc
    |succ m =>
    unfold Eh at hg
    split at hg
    ·
      rename_i hu;obtain⟨b,rfl,rfl⟩:=DataW.trod_bool hu h;simp only[CU,hu]at hc;cases hc;have hl:AK P t=.bool:=by simp[AK,hu]
      exact⟨[.bool b],⟨.bool hl,.bool hl⟩,trivial⟩
    · rename_i kk hu;obtain⟨b,rfl,rfl,hw⟩:=DataW.trod_int hu h;simp only[CU,hu]at hc;cases hc;have hl:AK P t=.int kk:=by simp[AK,hu]
      exact⟨[.int b],⟨.int hl,.int hl hw⟩,trivial⟩
    · rename_i hu;obtain⟨b,rfl,rfl,hw⟩:=DataW.trod_string hu h;simp only[CU,hu]at hc;cases hc;have hl:AK P t=.str:=by simp[AK,hu]
      refine⟨[.str b],⟨.str hl,.str hl ?_⟩,trivial⟩;have:=hb.str b.data.toList;simp only at hB;have hsz:b.size=b.data.toList.length:=by simp only[ByteArray.size,Array.length_toList]
      omega
    · rename_i e hu;simp only[CU,hu]at hc;cases hc;simp only[zzj,Bool.not_eq_true']at hg;have hl:AK P t=.sl e:=by simp[AK,hu,hg.1.2.1,hg.1.2.2,slK]
      obtain⟨te,hte⟩:=Option.isSome_iff_exists.1 hg.1.1;obtain⟨hcell0,hpos⟩:CU P Dy e=some te∧te.length=P.cellsOf e∧0<te.length:=by
        unfold AW at hte
        split at hte
        · rename_i l hl
          split at hte
          · rename_i hb2;cases hte;simp only[zzj]at hb2;exact⟨hl,AG.1 hb2.1,A7.1 hb2.2⟩
          cases hte
        cases hte
      rcases DataW.trod_slice hu h with⟨rfl,rfl⟩|⟨a,len,cap,elems,rest,n',hn,rfl,rfl,hbase,hlc,hcm,hel,hcells,_,_⟩
      · refine⟨[.rows []],⟨?_,?_⟩,trivial⟩
        · exact .sl (fun _ _=>undef) hl hte rfl (fun r hr=>by simp at hr) (Nat.le_refl 0) (.inl rfl) (fun i j t' hi=>by omega)
        exact .sl hl hte (Nat.zero_le _) (fun r hr=>by simp at hr) (fun i j t' hi=>by simp at hi)
      cases hn;simp only at hB;have hrow:∀i,i<len→∃(row:List Value) (ps:List PV),w.cells? 0 (a.add (i*P.cellsOf e)) (P.cellsOf e)=some row∧Rds P w B te row ps:=fun i hi=>by
        have h1:=hcells i hi;have hi2:i<elems.length:=by omega
        rw[zzn hi2]at h1;obtain⟨row,h2,h3⟩:=Option.bind_eq_some_iff.1 h1;obtain⟨ps,h4⟩:=ih e row _ h3 (Nat.le_trans (hb.elem (elems.map (·.1)) (rest.map (·.1)) _ (List.mem_map.2 ⟨_,List.getElem_mem hi2,rfl⟩)) hB) k Dy te hg.2 hcell0;exact⟨row,ps,h2,h4⟩
      have hch:∃(g:Nat→List PV),∀i,i<len→∃row,w.cells? 0 (a.add (i*P.cellsOf e)) (P.cellsOf e)=some row∧Rds P w B te row (g i):=by
        classical
        refine⟨fun i=>if h:∃ps,∃row,w.cells? 0 (a.add (i*P.cellsOf e)) (P.cellsOf e)=some row∧Rds P w B te row ps then Classical.choose h else [],fun i hi=>?_⟩;obtain⟨row,ps,h1,h2⟩:=hrow i hi;have hx:∃ps,∃row,w.cells? 0 (a.add (i*P.cellsOf e)) (P.cellsOf e)=some row∧Rds P w B te row ps:=⟨ps,row,h1,h2⟩;simp only[hx,dif_pos];exact Classical.choose_spec hx
      obtain⟨g,hgi⟩:=hch;have hrow:∀i,i<len→AB ((List.range len).map g) i=g i:=fun i hi=>by
        unfold AB;rw[zzk,List.getElem?_map,List.getElem?_range hi];rfl
      have hrl:∀r∈(List.range len).map g,r.length=te.length:=fun r hr=>by
        obtain⟨i,hi,rfl⟩:=List.mem_map.1 hr;obtain⟨row,_,h2⟩:=hgi i (List.mem_range.1 hi);exact h2.len.2
      have hpv:∀(i j:Nat) (p:PV),i<len→(g i)[j]?=some p→AD ((List.range len).map g) i j=p:=fun i j p hi hj=>by
        unfold AD AA;rw[hrow i hi,zzk,hj];rfl
      have hcellv:∀(i j:Nat) (row:List Value) (v:Value),w.cells? 0 (a.add (i*P.cellsOf e)) (P.cellsOf e)=some row→row[j]?=some v→w.cell? ((a.add (i*P.cellsOf e)).add j)=some v:=fun i j row v h1 h2=>by
        obtain⟨_,h3,h4⟩:=World.cells?_some h1;have hj:=(List.getElem?_eq_some_iff.1 h2).1;rw[h4 j (by omega)];exact h2
      obtain⟨b,off,spot⟩:=a;have hspot:len=0∨spot=none:=by
        rcases Nat.eq_zero_or_pos len with h0|h0
        · exact .inl h0
        refine .inr ?_;obtain⟨row,h1,h2⟩:=hgi 0 h0;have hlen:=h2.len.1;obtain⟨v,hv⟩:∃v,row[0]?=some v:=⟨row[0]'(by omega),by simp⟩;have:=hcellv 0 0 row v h1 hv;simpa[Addr.add] using World.cell?_spot this
      refine⟨[.rows ((List.range len).map g)],⟨?_,?_⟩,trivial⟩
      · rcases Nat.eq_zero_or_pos len with h0|h0
        · refine .sl (fun _ _=>undef) hl hte (by simp) hrl hlc (.inl h0) (fun i j t' hi=>by omega)
        have hs:=hspot.resolve_left (by omega);subst hs;refine .sl (fun i j=>(w.cell? ⟨b,off+(i*te.length+j),none⟩).getD undef) hl hte (by simp) hrl hlc (.inr ⟨⟨b,false⟩,off,rfl,trivial,⟨?_,fun h=>by cases h⟩,fun i j hi hj=>?_⟩) (fun i j t' hi hj=>?_)
        · obtain⟨row,h1,h2⟩:=hgi 0 h0;have hlen:=h2.len.1;obtain⟨v,hv⟩:∃v,row[0]?=some v:=⟨row[0]'(by omega),by simp⟩;have:=AAu (hcellv 0 0 row v h1 hv);simpa[Addr.add] using this
        · obtain ⟨row,h1,h2⟩:=hgi i hi;have hlen:=h2.len.1;obtain ⟨v,hv⟩:∃ v,row[j]?=some v:=⟨row[j]'(by omega),by simp⟩;have h3:=hcellv i j row v h1 hv;have h4:((⟨b,off,none⟩:Addr).add (i * P.cellsOf e)).add j=⟨b,off+(i * te.length+j),none⟩:=by
            rw[add_plain,add_plain,hpos.1,Nat.add_assoc]
          rw[h4]at h3;rw[h3];rfl
        obtain⟨row,h1,h2⟩:=hgi i hi;obtain⟨v,p,h3,h4,h5,h6⟩:=h2.get hj;have h7:=hcellv i j row v h1 h3;have h8:((⟨b,off,none⟩:Addr).add (i*P.cellsOf e)).add j=⟨b,off+(i*te.length+j),none⟩:=by
          rw[add_plain,add_plain,hpos.1,Nat.add_assoc]
        rw[h8]at h7;rw[hpv i j p hi h4,h7];exact h5
      refine .sl hl hte ?_ hrl (fun i j t' hi hj=>?_)
      · have:=hb.len (elems.map (·.1)) (rest.map (·.1));simp at this⊢;omega
      have hi:i<len:=by simpa using hi
      obtain⟨row,h1,h2⟩:=hgi i hi;obtain⟨v,p,h3,h4,h5,h6⟩:=h2.get hj;rw[hpv i j p hi h4];exact h6
    ·
      rename_i fs hu;simp only[zzj]at hg;obtain⟨hsz,hgf,hga⟩:=hg;have hsz:ts.length=P.cellsOf t:=by
        unfold cN at hsz;rw[hc]at hsz;exact AG.1 hsz
      simp only [CU,hu] at hc;obtain ⟨xs,n',hn,rfl,hlen,hxl,hx⟩:=DataW.trod_struct hu h;cases hn;simp only at hB;have key:∀ (l:List Field) (i off:Nat) (ts:List TypeId),(∀ j f,l[j]?=some f→fs[i+j]?=some f)→Sp P m off l=true→(∀ f∈l,Eh P k m f.type=true)→P6 (l.map fun f=>CU P m f.type)=some ts →
          off+ts.length≤cs.length→∃ps,Rds P w B ts ((cs.drop off).take ts.length) ps:=fun l=>by
        induction l with
        |nil =>
          intro i off ts _ _ _ hc _;simp only[List.map_nil,P6]at hc;cases hc;exact⟨[],by simp[Rds]⟩
        |cons fd l ihl =>
          intro i off ts hi hgf hga hc hle;rw[List.map_cons]at hc;obtain⟨l1,ts',h1,h2,rfl⟩:=yJ hc;simp only[Sp,h1,zzj]at hgf;obtain⟨⟨g1,g2⟩,g3⟩:=hgf;have g1:=AG.1 g1;have g2:=AG.1 g2;rw[List.length_append]at hle;have hf:=hi 0 fd rfl;rw[Nat.add_zero]at hf;have hti:=hx i fd hf;have hix:i<xs.length:=by
            have:=(Array.getElem?_eq_some_iff.1 hf).1;omega
          rw[zzn hix,g1,←g2]at hti;obtain⟨ps1,q1⟩:=ih fd.type _ _ hti (Nat.le_trans (hb.part (xs.map (·.1)) _ (List.mem_map.2 ⟨_,List.getElem_mem hix,rfl⟩)) hB) k m l1 (hga fd zzl) h1;obtain⟨ps2,q2⟩:=ihl (i+1) (off+l1.length) ts' (fun j f hj=>by
            have:=hi (j+1) f (by simpa using hj);rw[show i+1+j=i+(j+1) by omega];exact this) (by rw[g2];exact g3) (fun f hf=>hga f (zzm _ hf)) h2 (by omega)
          refine⟨ps1++ps2,?_⟩;rw[List.length_append,List.take_add,List.drop_drop];exact q1.app q2
      have hts:ts.length=cs.length:=by rw[hlen,hsz]
      obtain⟨ps,hps⟩:=key fs.toList 0 0 ts (fun j f hj=>by rw[Nat.zero_add,←Array.getElem?_toList];exact hj) hgf (fun f hf=>List.all_eq_true.1 hga f hf) hc (by omega);refine⟨ps,?_⟩;rw[List.drop_zero,hts,List.take_length]at hps;exact hps
    ·
      rename_i kk e hu;simp only[zzj]at hg;obtain⟨hsz,hg⟩:=hg;have hsz:ts.length=P.cellsOf t:=by
        unfold cN at hsz;rw[hc]at hsz;exact AG.1 hsz
      simp only[CU,hu]at hc;obtain⟨le,hle,hts⟩:=zzo.1 hc;have g1:le.length=P.cellsOf e:=by
        have:=hg.1;unfold cN at this;rw[hle]at this;exact AG.1 this
      obtain⟨xs,n',hn,rfl,hlen,hxl,hx⟩:=DataW.trod_array hu h;cases hn;simp only at hB;have key:∀(q i:Nat),i+q≤kk→∃ps,Rds P w B (FF q le) ((cs.drop (i*le.length)).take (q*le.length)) ps:=fun q=>by
        induction q with
        |zero=>intro i _;exact⟨[],by simp[Rds,FF]⟩
        |succ q ihq =>
          intro i hi;have hti:=hx i (by omega);have hix:i<xs.length:=by omega
          rw[zzn hix,←g1]at hti;obtain⟨ps1,q1⟩:=ih e _ _ hti (Nat.le_trans (hb.part (xs.map (·.1)) _ (List.mem_map.2 ⟨_,List.getElem_mem hix,rfl⟩)) hB) k m le hg.2 hle;obtain⟨ps2,q2⟩:=ihq (i+1) (by omega);refine⟨ps1++ps2,?_⟩;rw[show(q+1)*le.length=le.length+q*le.length by rw[Nat.add_mul];omega,List.take_add,List.drop_drop];rw[show i*le.length+le.length=(i+1)*le.length by rw[Nat.add_mul];omega];exact q1.app q2
      obtain⟨ps,hps⟩:=key kk 0 (by omega);have hrep:∀q,(FF q le).length=q*le.length:=fun q=>by
        induction q with
        |zero=>simp[FF]
        |succ q ih=>simp only[FF,List.length_append,ih];rw[Nat.add_mul];omega
      have hcl:cs.length=kk*le.length:=by rw[hlen,←hsz,←hts,hrep]
      rw[Nat.zero_mul,List.drop_zero,←hcl,List.take_length]at hps;exact⟨ps,by rw[←hts];exact hps⟩
    cases hg
end
end Go.Px
end
section
namespace Go.Px
open Go.ChangeShapes Go.WideShapes Go.ChangeAt Go.RowKit
section
variable {E:Env} {N:Nat} {P:Program} {W W':World} {B:Nat} {H:Type} {enc:TypeId×Value→H} {n0:Nz} {σ:Nat→Option (Nat×Nat)}
theorem PVoks.app:∀{ts ts':List TypeId} {ps ps':List PV},PVoks P B ts ps→PVoks P B ts' ps'→PVoks P B (ts++ts') (ps++ps')
 | [],_,[],_,_,h=>h
 |t::ts,_,p::ps,_,h,h'=>⟨h.1,PVoks.app h.2 h'⟩
 | [],_,_::_,_,h,_=>h.elim
 |_::_,_,[],_,h,_=>h.elim
theorem Rds.oks:∀{ts:List TypeId} {vs:List Value} {ps:List PV},Rds P W B ts vs ps→PVoks P B ts ps
 | [],[],[],_=>trivial
 |t::ts,v::vs,p::ps,h=>⟨h.1.2,Rds.oks h.2⟩
 | [],[],_::_,h=>h.elim
 | [],_::_,_,h=>h.elim
 |_::_,[],_,h=>h.elim
 |_::_,_::_,[],h=>h.elim
theorem Rds.cells (hst:∀ b,b.b<W.heap.size→StB n0 noB σ (Ab ([]:List (Nat×HEnt (std E N)))) false b):∀ {ts:List TypeId} {vs:List Value} {ps:List PV},Rds P W B ts vs ps→∀ (q:Nat) (rest:List AQ),
    ∃cs:List (AC0 E N),Ak (O:=std E N) P false q ts (ps.map PV.leaf++rest)=some (cs,[],rest)∧RelCs P n0 noB σ (Ab []) W cs vs
  | [],[],[],_,q,rest=>⟨[],rfl,trivial⟩
  |t::ts,v::vs,p::ps,h,q,rest=>by
    obtain⟨cs,h1,h2⟩:=Rds.cells hst h.2 q rest;have hr:=h.1.1;cases hr with
    |int hl=>exact⟨.int _ _::cs,by simp[Ak,hl,PV.leaf,h1],rfl,h2⟩
    |bool hl=>exact⟨.bool _::cs,by simp[Ak,hl,PV.leaf,h1],rfl,h2⟩
    |str hl=>exact⟨.str _::cs,by simp[Ak,hl,PV.leaf,h1],rfl,h2⟩
    |sl v hl hts hle hrl hc hm hv =>
      refine⟨.imm _ false _::cs,by simp[Ak,hl,PV.leaf,h1];rfl,⟨t,hl,?_⟩,h2⟩;exact(Rep.sl v hl hts hle hrl hc hm hv).stL (fun b _=>hst b)
    |ptN hl hb=>exact⟨.imm _ false _::cs,by simp[Ak,hl,PV.leaf,h1],⟨t,hl,.ptN hl hb⟩,h2⟩
    |pt hl hl' hr=>exact⟨.imm _ false _::cs,by simp[Ak,hl,PV.leaf,h1],⟨t,hl,(Rep.pt hl hl' hr).stL (fun b _=>hst b)⟩,h2⟩
    |opq hl hc hm=>exact⟨.opq false _::cs,by simp[Ak,hl,PV.leaf,h1],⟨t,hl,(Rep.opq hl hc hm).stL (fun b _=>hst b)⟩,h2⟩
  | [],[],_::_,h,_,_=>h.elim
  | [],_::_,_,h,_,_=>h.elim
  |_::_,[],_,h,_,_=>h.elim
  |_::_,_::_,[],h,_,_=>h.elim
theorem yy {t:TypeId} {v:Value} {k m base:Nat} (hg:Eh P k m t=true) (hv:Value.okWide P W .any base t v):match Ag P t with|true=>∃cs,v=.agg cs|false=>v.oneCell'=true:=by
 cases k with
 |zero=>simp[Eh]at hg
 |succ k =>
  unfold Eh at hg;unfold Ag
  split at hg
  ·rename_i hu;rw[hu];obtain⟨b,rfl⟩:=okWide_bool hu hv;rfl
  ·rename_i hu;rw[hu];obtain⟨b,rfl⟩:=okWide_int hu hv;rfl
  ·rename_i hu;rw[hu];obtain⟨b,rfl⟩:=okWide_string hu hv;rfl
  ·rename_i hu;rw[hu];obtain⟨a,l,c,rfl⟩:=okWide_slice hu hv;rfl
  ·rename_i hu;rw[hu];obtain⟨cs,h,_⟩:=okWide_struct hu hv;exact⟨cs,h⟩
  ·rename_i hu;rw[hu];unfold Value.okWide at hv;rw[hu]at hv;obtain⟨cs,h,_⟩:=hv;exact⟨cs,h⟩
  cases hg
theorem ADL {t:TypeId} {k m:Nat} (hg:Eh P k m t=true):AK P t≠.fn:=by
 intro h;cases k with
 |zero=>simp[Eh]at hg
 |succ k =>
  unfold Eh at hg;unfold AK at h
  split at hg<;>(try (rename_i hu;rw[hu]at h;cases h;done))
  ·rename_i e hu;rw[hu]at h
   rcases Va (Hl P e) (Nat.blt e ptB) e with h2|h2|h2<;>(have h:slK (Hl P e) (Nat.blt e ptB) e=LK.fn:=h;rw[h2]at h;cases h)
  cases hg
theorem Z4 {f:DataW H→Nat} (hb:Bulk f) (hst:∀ b,b.b<W.heap.size→StB n0 noB σ (Ab ([]:List (Nat×HEnt (std E N)))) false b) {base:Nat}:∀ {ts:List TypeId} {vals:List Value} {ds:List (DataW H)} {p:List MemPlace},DataW.TrodAll enc P W 0 (fun _=>true) true ts vals ds p →
    (∀(j:Nat) (t:TypeId) (v:Value),ts[j]?=some t→vals[j]?=some v→Value.okWide P W .any base t v)→(∀t∈ts,Eh P 40 Dy t=true∧(AW P t).isSome=true)→(∀d∈ds,f d≤B) →
    ∃(l:List TypeId) (ls:List PV) (vs:List (AV (std E N))),LL P ts=some l∧PVoks P B l ls∧BS (O:=std E N) P [] 1 ts [] (ls.map PV.leaf)=some (vs,[])∧RelArgs P n0 noB σ (Ab []) W vs vals
  | [],vals,ds,p,h,_,_,_=>by
    obtain⟨rfl,rfl,rfl⟩:=trodAll_nil h;exact⟨[],[],[],rfl,trivial,rfl,trivial⟩
  |t::ts,vals,ds,p,h,hv,hg,hd=>by
    obtain⟨v,vals',d,ds',p1,q1,rfl,rfl,rfl,h1,h2⟩:=trodAll_cons h;obtain⟨l,ls,vs,a1,a2,a3,a4⟩:=Z4 (base:=base) hb hst h2 (fun j t v hj hj2=>hv (j+1) t v (by simpa using hj) (by simpa using hj2)) (fun t ht=>hg t (zzm _ ht)) (fun d hd'=>hd d (zzm _ hd'));obtain⟨g1,g2⟩:=hg t zzl;obtain⟨lt,hlt⟩:=Option.isSome_iff_exists.1 g2;have hct:CU P Dy t=some lt:=by
      unfold AW at hlt
      split at hlt
      · rename_i l' hl'
        split at hlt
        · cases hlt;exact hl'
        cases hlt
      cases hlt
    obtain⟨n,hn⟩:=h1;obtain⟨ps,hps⟩:=sX hb n t _ _ hn (hd d zzl) 40 Dy lt g1 hct;obtain⟨cs,c1,c2⟩:=Rds.cells hst hps 1 (ls.map PV.leaf);refine⟨lt++l,ps++ls,.val { agg:=Ag P t,cs }::vs,by simp[LL,hlt,a1],hps.oks.app a2,?_,⟨c2,yy g1 (hv 0 t v rfl rfl)⟩,a4⟩;rw[List.map_append];unfold BS;have hnf:=ADL g1;cases hl:AK P t with
    |fn=>exact(hnf hl).elim
    |_ =>
      simp only[hlt];rw[show([]:List Bool).headD false=false from rfl,c1];simp only[List.tail_nil,List.length_nil,Nat.add_zero,a3,Option.map_some,List.append_nil]
theorem rD (hos:W'.os=W.os) (hout:W'.output=W.output) (h:∀b,b<W.heap.size→W'.heap[b]?=W.heap[b]?) (may:MemPlace→Prop):W.keptBut W' may:=by
 refine⟨hos,hout,fun i hi=>?_⟩;rw[h i hi];cases W.heap[i]? with
 |none=>rfl
 |some o =>
  cases o with
  |cells c t fr=>exact⟨rfl,rfl,rfl,fun _ _=>rfl⟩
  |map es clock=>exact .inr ⟨rfl,rfl⟩
  |_=>rfl
theorem ZN (hlaid:laidOutB P=true) (h:∀ b,b<W.heap.size→W'.heap[b]?=W.heap[b]?) {sp:Nat→Bool}:∀ {ts:List TypeId} {vals:List Value} {ds:List (DataW H)} {p:List MemPlace},DataW.TrodAll enc P W 0 (fun _=>true) true ts vals ds p →
    (∀t∈ts,P.readableRec t=true∧t<P.types.size)→(∀x∈p,x.block<W.heap.size)→(∀x∈p,sp x.block=true)→DataW.TrodAll enc P W' 0 sp true ts vals ds p
  | [],vals,ds,p,ht,_,_,_=>by
    obtain⟨rfl,rfl,rfl⟩:=trodAll_nil ht;exact rfl
  |t::ts,vals,ds,p,ht,hr,hlt,hsp=>by
    obtain⟨v,vals',d,ds',p1,q1,rfl,rfl,rfl,h1,h2⟩:=trodAll_cons ht;refine⟨p1,q1,WideElems.Trod_stays hlaid (hr t zzl).1 (hr t zzl).2 h1 (fun x hx=>?_) (fun x hx=>hsp x (List.mem_append_left _ hx)),
      ZN hlaid h h2 (fun t ht=>hr t (zzm _ ht)) (fun x hx=>hlt x (List.mem_append_right _ hx)) (fun x hx=>hsp x (List.mem_append_right _ hx)),rfl⟩
    have hb:=h x.block (hlt x (List.mem_append_left _ hx));cases x with
    |cell b off=>exact World.cell?_of_block (a:=⟨b,off,none⟩) hb
    |map b=>exact hb
theorem de {w:World} {base:Nat} {spare:Nat→Bool} {held:Bool}:∀{ts:List TypeId} {vals:List Value} {ds:List (DataW H)} {p:List MemPlace},DataW.TrodAll enc P w base spare held ts vals ds p→ds.length=ts.length
 | [],vals,ds,p,ht=>by
  obtain⟨rfl,rfl,rfl⟩:=trodAll_nil ht;rfl
 |t::ts,vals,ds,p,ht=>by
  obtain⟨v,vals',d,ds',p1,q1,rfl,rfl,rfl,h1,h2⟩:=trodAll_cons ht;simp[de h2]
theorem w7 {W:World} (h:P.globalNamed lO=none):Kept (E:=E) (N:=N) P ⟨W.heap.size,fun _=>True⟩ noB (fun _=>none) (Ab []) W:=fun g hg=>by rw[h]at hg;cases hg
theorem zI {ci:CI} (hfns:ci.fns=[]) (hgives:ci.gives=[]) (hv:Oz P E N ci) {fn:Func} (hfn:P.funcs[ci.f]?=some fn) {tb:TypeId} (hres:fn.resultTypes=#[tb]) (htb:P.underlying tb=some .bool) (hlaid:laidOutB P=true)
    (hgood:∀t∈fn.params.toList,(Eh P 40 Dy t=true∧(AW P t).isSome=true)∧(P.readableRec t=true∧t<P.types.size)) {s:ChangeSpec} (hvars:s.vars=[]) (hspec:∀ds:List (DataW H),ds.length=fn.params.size→s.fn H ds={ results:=[.lit (.bool true)],args:=ds })
    {f:DataW H→Nat} (hb:Bulk f) (hE:∀l ls,LL P fn.params.toList=some l→PVoks P B l ls→E ci.f [] ls=some [.bool true]) {args:Array Value} {ds gs:List (DataW H)} {before:List MemPlace} {base:Nat}
    (hval:∀(j:Nat) t v,fn.params[j]?=some t→args[j]?=some v→Value.okWide P W .any base t v) (hW:DataW.Whole enc P fn.params.toList s.vars false W args.toList ds gs before) (hbulk:∀d∈ds,f d≤B) (hkp:Kept (E:=E) (N:=N) P ⟨W.heap.size,fun _=>True⟩ noB (fun _=>none) (Ab []) W) :
    Calls P ci.f args W fun e W'=>∃v,e=.returned v∧s.post enc P fn false true false false W args v W':=by
  have hW0:=hW;have hlt:=hW.lt;obtain⟨p,q,hA,hV,rfl,hfz,hnd⟩:=hW;rw[hvars]at hV;obtain⟨rfl,rfl⟩:=trodVars_none hV;have hst:∀b,b.b<W.heap.size→StB ⟨W.heap.size,fun _=>True⟩ noB (fun _=>none) (Ab ([]:List (Nat×HEnt (std E N)))) false b:=fun b hlt=>⟨fun hm=>(by
    rcases hm with⟨_,_,h,_⟩|⟨_,_,_,h,_⟩
    · cases h
    cases h),fun e=>(by cases e),.inr ⟨hlt,trivial⟩⟩
  have hval0:∀(j:Nat) t v,fn.params.toList[j]?=some t→args.toList[j]?=some v→Value.okWide P W .any base t v:=fun j t v h1 h2=>by
    exact hval j t v (by rw[←Array.getElem?_toList];exact h1) (by rw[←Array.getElem?_toList];exact h2)
  obtain⟨l,ls,vs,a1,a2,a3,a4⟩:=Z4 (E:=E) (N:=N) (n0:=⟨W.heap.size,fun _=>True⟩) (σ:=fun _=>none) (base:=base) hb hst hA hval0 (fun t ht=>(hgood t ht).1) hbulk;have he:=hE l ls a1 a2;have hm0:Mem P ⟨W.heap.size,fun _=>True⟩ noB (fun _=>none) (Ab ([]:List (Nat×HEnt (std E N)))) W:=⟨fun _ _ h=>(by cases h),fun _ _ h=>(by cases h),fun _ _ _ _ _ h=>(by cases h),fun _ _ _ _ _ _ _ h=>(by cases h),fun _ _ _ _ _ _ h=>(by cases h)⟩;have hc:=hv fn hfn ls _ (by rw[hfns];exact he) vs [] (by rw[hgives,hfns];exact a3) ⟨W.heap.size,fun _=>True⟩ (fun _=>none) W args.toList rfl hm0 a4 (fun _ _=>rfl) hkp;refine Calls.mono hc (fun e W' hr=>?_);cases e with
  |panicked ch=>exact hr.elim
  |outgrown=>exact hr.elim
  |returned v =>
    obtain⟨h1,h2,h3,h4,h5,h6⟩:=hr;have hheap:∀b,b<W.heap.size→W'.heap[b]?=W.heap[b]?:=fun b hb=>h5 b hb (hst ⟨b,true⟩ hb).1
    obtain⟨σ',vs',hs',b1,b2,b3,b4⟩:=h6 0;have hvt:v=.bool true:=by
      rw[hres]at b1;have hl:AK P tb=.bool:=by simp[AK,htb]
      have hty:∀x,AW P tb=some x→x=[tb]:=fun x hx=>by
        unfold AW at hx;simp only[Dy,CU,htb]at hx
        split at hx
        · cases hx;rfl
        cases hx
      have hag:Ag P tb=false:=by simp[Ag,htb]
      cases hx:AW P tb with
      |none=>simp[Br,hx]at b1
      |some x =>
        have:=hty x hx;subst this;simp[Br,hx,A0,hl,hag]at b1;obtain⟨rfl,rfl⟩:=b1;obtain⟨g1,g2⟩:RelVal P _ noB σ' (Ab []) W' (⟨false,[.bool true]⟩:Val (std E N)) v:=b3;have g2:v.oneCell'=true:=g2;rw[Bp g2]at g1;exact g1.1
    subst hvt;have hlen:ds.length=fn.params.size:=by
      have:=de hA;simpa using this
    have hsp:=hspec ds hlen;have hstay:=ZN (enc:=enc) (sp:=fun b=>decide (b<W.heap.size)) hlaid hheap hA (fun t ht=>(hgood t ht).2) (fun x hx=>hlt x (List.mem_append_left _ hx)) (fun x hx=>by simpa using hlt x (List.mem_append_left _ hx));refine⟨_,rfl,ds,[],p++[],[],p,[],hW0,?_,?_,?_,rD h1 h3 hheap _,fun h=>(by cases h)⟩
    · rw[List.append_nil,hsp,hres];exact trodAll_cons_mk (shut_bool htb true) trodAll_mk0
    · rw[List.append_nil,hsp];exact hstay
    rw[List.append_nil,hsp,hvars];exact rfl
end
end Go.Px
end
section
namespace Go.Px
variable {P:Program} {B:Nat}
inductive KT
 |i|u|b|s|o
 |r (l:List KT)
def kT (P:Program):Nat→TypeId→KT
 |0,_=>.o
 |n+1,t=>match AK P t with
  | .int .u64=>.o
  | .int .u8=>.u
  | .int _=>.i
  | .bool=>.b
  | .str=>.s
  | .sl e=>match AW P e with
   |some (a::l)=>.r ((a::l).map (kT P n))
   |_=>.o
  |_=>.o
def eE (P:Program) (ts:List TypeId):Option (List KT):=match LL P ts with
 |some l=>some (l.map (kT P 3))
 |none=>none
theorem wO {ts l:List TypeId} {ks:List KT} (h:eE P ts=some ks) (hl:LL P ts=some l):l.map (kT P 3)=ks:=by
 unfold eE at h;rw[hl]at h;exact Option.some.inj h
mutual
inductive KD (B:Nat):KT→PV→Prop
 |int (n:Int) (h : -9223372036854775808≤n∧n≤9223372036854775807):KD B .i (.int n)
 |byte (n:Int) (h:0≤n∧n≤255):KD B .u (.int n)
 |bool (b:Bool):KD B .b (.bool b)
 |str (s:ByteArray) (h:s.size≤B):KD B .s (.str s)
 |rows (ks:List KT) (l:Rows) (h:l.length≤B) (hr:∀x,x∈l→KDs B ks x):KD B (.r ks) (.rows l)
 |other (p:PV):KD B .o p
inductive KDs (B:Nat):List KT→List PV→Prop
 |nil:KDs B [] []
 |cons (k:KT) (p:PV) (ks:List KT) (ps:List PV) (h:KD B k p) (t:KDs B ks ps):KDs B (k::ks) (p::ps)
end
theorem wo {f:TypeId→KT}:∀(ts:List TypeId) (x:List PV),x.length=ts.length→(∀j t,ts[j]?=some t→KD B (f t) (AA x j))→KDs B (ts.map f) x
 | [],[],_,_=>.nil
 |t::ts,p::ps,hl,h=>.cons _ _ _ _ (h 0 t rfl) (wo ts ps (Nat.succ.inj hl) fun j t' hj=>h (j+1) t' hj)
 | [],_::_,hl,_=>by cases hl
 |_::_,[],hl,_=>by cases hl
theorem AAX:∀(n:Nat) {t:TypeId} {p:PV},PVok P B t p→KD B (kT P n t) p
 |0,_,_,_=>.other _
 |n+1,t,p,h=>by
  unfold kT;cases h with
  | @int _ k m hk hw =>
   rw[hk];cases k<;>first|exact .other _|exact .byte m (by simp[Lit.wf,IntKind.min,IntKind.max,IntKind.signed,IntKind.bits]at hw;omega)|exact .int m (by simp[Lit.wf,IntKind.min,IntKind.max,IntKind.signed,IntKind.bits]at hw;omega)
  |bool hk=>rw[hk];exact .bool _
  |str hk hs=>rw[hk];exact .str _ hs
  |sl hk hts hl hr hv =>
   rename_i e tl l;rw[hk];simp only;rw[hts];cases tl with
   |nil=>exact .other _
   |cons a b =>
    refine .rows _ _ hl fun x hx=>?_
    obtain⟨i,hi,rfl⟩:=List.getElem_of_mem hx;refine wo _ _ (hr _ hx) fun j t' hj=>?_
    have h1:=AAX n (hv i j t' hi hj);have h2:AD l i j=AA l[i] j:=by
     unfold AD AB;rw[zzk,zzn hi];rfl
    rw[h2]at h1;exact h1
theorem xP:∀{l:List TypeId} {ls:List PV},PVoks P B l ls→KDs B (l.map (kT P 3)) ls
 | [],[],_=>.nil
 |t::ts,p::ps,h=>.cons _ _ _ _ (AAX 3 h.1) (xP h.2)
 | [],_::_,h=>h.elim
 |_::_,[],h=>h.elim
theorem ABr {ls:List PV} (h:KDs B [] ls):ls=[]:=by cases h;rfl
theorem Wh {k:KT} {ks:List KT} {ls:List PV} (h:KDs B (k::ks) ls):∃p r,ls=p::r∧KD B k p∧KDs B ks r:=by cases h;exact⟨_,_,rfl,‹_›,‹_›⟩
theorem GJ {ks:List KT} {ls:List PV} (h:KDs B (.i::ks) ls):∃n r,ls=.int n::r∧(-9223372036854775808≤n∧n≤9223372036854775807)∧KDs B ks r:=by
 obtain⟨p,r,rfl,h,t⟩:=Wh h;cases h;exact⟨_,_,rfl,‹_›,t⟩
theorem AC8 {ks:List KT} {ls:List PV} (h:KDs B (.u::ks) ls):∃n r,ls=.int n::r∧(0≤n∧n≤255)∧KDs B ks r:=by
 obtain⟨p,r,rfl,h,t⟩:=Wh h;cases h;exact⟨_,_,rfl,‹_›,t⟩
theorem ABU {ks:List KT} {ls:List PV} (h:KDs B (.b::ks) ls):∃b r,ls=.bool b::r∧KDs B ks r:=by
 obtain⟨p,r,rfl,h,t⟩:=Wh h;cases h;exact⟨_,_,rfl,t⟩
theorem jW {ks:List KT} {ls:List PV} (h:KDs B (.s::ks) ls):∃s r,ls=.str s::r∧s.size≤B∧KDs B ks r:=by
 obtain⟨p,r,rfl,h,t⟩:=Wh h;cases h;exact⟨_,_,rfl,‹_›,t⟩
theorem WW {k:KT} {k' ks:List KT} {ls:List PV} (h:KDs B (.r (k::k')::ks) ls):∃l r,ls=.rows l::r∧l.length≤B∧(∀x,x∈l→x≠[])∧(∀x,x∈l→KDs B (k::k') x)∧KDs B ks r:=by
 obtain⟨p,r,rfl,h,t⟩:=Wh h;cases h with
 |rows _ l hl hr=>exact⟨l,r,rfl,hl,(fun x hx he=>by have h1:=hr x hx;rw[he]at h1;cases h1),hr,t⟩
end Go.Px
end
section
namespace Go.Px
theorem xY {B:Nat} {l:Rows} (hl:l.length≤B) (h:∀x,x∈l→KDs B [.s] x) (hB:B≤1048576):Big l:=by
 refine⟨by omega,fun i=>?_⟩;unfold AD AB;rw[zzk]
 by_cases hi:i<l.length
 ·rw[zzn hi];obtain⟨s,r,e,hs,_⟩:=jW (h _ (List.getElem_mem hi));rw[Option.getD_some,e];show s.size≤_;omega
 rw[List.getElem?_eq_none (by omega)];exact Nat.zero_le _
theorem zN {B:Nat} {k:KT} {ks:List KT} {l:Rows} (h:∀x,x∈l→KDs B [.r (k::ks),.u] x) (i:Nat):0≤pvI (AD l i 1)∧pvI (AD l i 1)≤255:=by
 unfold AD AB;rw[zzk]
 by_cases hi:i<l.length
 ·rw[zzn hi];obtain⟨p,r,e,_,_,_,t⟩:=WW (h _ (List.getElem_mem hi));obtain⟨n,r2,e2,hn,_⟩:=AC8 t;rw[Option.getD_some,e,e2];exact hn
 rw[List.getElem?_eq_none (by omega)];exact⟨Int.le_refl _,by decide⟩
end Go.Px
end
