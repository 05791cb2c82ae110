/- Part 11. -/
import Derived.Test.YtfelmmkjeicgoaaGreatDoorPart10
set_option linter.unusedVariables false
set_option linter.unusedSimpArgs false
variable {s0 s1 s2 s3 s4 s5 s6 s7 s8 s9 s10 s11 s12 s13 s15 s21 s22 s23 s25 s26 s27:Int}
variable {s14 s16 s17 s19 s24:Go.Px.Rows}
variable {r1 r2 r3 r4 r5 r6 r7 r9 r10 r11 r12:Int}
section
namespace Go.Px
set_option maxRecDepth 100000
structure Lens (s t:Inn):Prop where
 bt:t.batters.length=s.batters.length
 bd:t.bowled.length=s.bowled.length
 sb:t.subs.length=s.subs.length
 bw:t.bowlers.length≤s.bowlers.length+1
 bf:t.before.length≤s.before.length+s.bowlers.length+1
theorem Lens.refl (s:Inn):Lens s s:=⟨rfl,rfl,rfl,by omega,by omega⟩
@[reducible] def aD (t:Inn) (a b e f g:Int):Inn:=⟨t.side,t.target,t.overs,a,t.wickets,b,e,f,g,t.pens,t.complete,t.inover,t.striker,t.other,t.batters,t.bowler,t.bowlers,t.before,t.fresh,t.bowled,t.freehit,t.ballage,t.keeper,t.outside,t.subs,t.rev1,t.rev2,t.ending⟩
theorem RN {N:Nat} {r8:Bool} {r0:ByteArray} {r13:Rows} {s18 s20:Bool}  : Bq N [.str r0,.int r1,.int r2,.int r3,.int r4,.int r5,.int r6,.int r7,.bool r8,.int r9,.int r10,.int r11,.int r12,.rows r13,.int s0,.int s1,.int s2,.int s3,.int s4,.int s5,.int s6,.int s7,.int s8,.int s9,.int s10,.int s11,.int s12,.int s13,.rows s14,.int s15,.rows s16,.rows s17,.bool s18,.rows s19,.bool s20,.int s21,.int s22,.int s23,.rows s24,.int s25,.int s26,.int s27]=some [.int (JN r4 s10 s11)]:=by
 rfl
theorem VW {N:Nat} {r8:Bool} {r0:ByteArray} {r13:Rows} {s18 s20:Bool}  : Ha N [.str r0,.int r1,.int r2,.int r3,.int r4,.int r5,.int r6,.int r7,.bool r8,.int r9,.int r10,.int r11,.int r12,.rows r13,.int s0,.int s1,.int s2,.int s3,.int s4,.int s5,.int s6,.int s7,.int s8,.int s9,.int s10,.int s11,.int s12,.int s13,.rows s14,.int s15,.rows s16,.rows s17,.bool s18,.rows s19,.bool s20,.int s21,.int s22,.int s23,.rows s24,.int s25,.int s26,.int s27]=some [.int (JN r4 s10 s11)]:=by
 rfl
end Go.Px
end
section
namespace Go.Px
set_option maxRecDepth 100000
theorem Lens.of {s t:Inn} (h1:t.batters.length=s.batters.length) (h2:t.bowled.length=s.bowled.length) (h3:t.subs.length=s.subs.length) (h4:t.bowlers=s.bowlers) (h5:t.before=s.before):Lens s t:=⟨h1,h2,h3,by rw [h4];omega,by rw [h5];omega⟩
def Ll (r:Rul) (s:Inn):Bool:=Ri r.name r.side r.innings r.overs r.balls r.quota r.wide r.noball r.newball r.followon r.reviews r.outside r.power s.batters s.bowlers s.before s.bowled s.subs s.side s.target s.overs s.runs s.wickets s.wides s.noballs s.byes s.legbyes s.pens s.complete s.inover s.striker s.other s.bowler s.ballage s.keeper s.outside s.rev1 s.rev2 s.ending
theorem SI {N:Nat} {r8:Bool} {r0:ByteArray} {r13:Rows} {s18 s20:Bool} (h:Fit s14 s16 s17 s19 s24) (hN:2097152<N) (hs:r0.size≤1048576):BA N [.str r0,.int r1,.int r2,.int r3,.int r4,.int r5,.int r6,.int r7,.bool r8,.int r9,.int r10,.int r11,.int r12,.rows r13,.int s0,.int s1,.int s2,.int s3,.int s4,.int s5,.int s6,.int s7,.int s8,.int s9,.int s10,.int s11,.int s12,.int s13,.rows s14,.int s15,.rows s16,.rows s17,.bool s18,.rows s19,.bool s20,.int s21,.int s22,.int s23,.rows s24,.int s25,.int s26,.int s27]=some [.bool (Ll (⟨r0,r1,r2,r3,r4,r5,r6,r7,r8,r9,r10,r11,r12,r13⟩:Rul) (⟨s0,s1,s2,s3,s4,s5,s6,s7,s8,s9,s10,s11,s12,s13,s14,s15,s16,s17,s18,s19,s20,s21,s22,s23,s24,s25,s26,s27⟩:Inn))]:=by
 exact Qf N _ _ _ _ _ _ _ _ _ _ _ _ _ _ _ _ _ _ _ _ _ _ _ _ _ _ _ _ _ _ _ _ _ _ _ _ _ _ _ _ _ _ hN hs h.bt h.bw h.bf h.bd
end Go.Px
end
section
namespace Go.Px
set_option maxRecDepth 100000
def Qe (r:Rul):Rul:={ r with name:=X1 r.name 20,power:=cut r.power 10 }
def MX (s:Inn):Inn:={ s with batters:=cut s.batters 13,bowlers:=cut s.bowlers 13,before:=cut s.before 13,bowled:=cut s.bowled 13,subs:=cut s.subs 13 }
theorem Oz (L:Rows) (c:Nat):(cut L c).length≤c:=by
 unfold cut;rw [List.length_drop,List.length_take];cases h:iLt (c:Int) (L.length:Int) with
 | true=>simp only [cond_true];omega
 | false=>simp only [iLt,decide_eq_false_iff_not] at h;simp only [cond_false];omega
theorem ZL (s:Inn):(MX s).Fit:=⟨Nat.le_trans (Oz _ 13) (by omega),Nat.le_trans (Oz _ 13) (by omega),Nat.le_trans (Oz _ 13) (by omega),Nat.le_trans (Oz _ 13) (by omega),Nat.le_trans (Oz _ 13) (by omega)⟩
theorem UE (r:Rul) (h:r.name.size≤1048576):(Qe r).name.size≤1048576:=Nat.le_trans (Xx _ _) h
end Go.Px
end
section
namespace Go.Px
set_option maxRecDepth 100000
theorem Si {x a b:Int}:btw x a b=true↔a≤x∧x≤b:=by simp [btw,iLe]
structure RulOk (r:Rul):Prop where
 side:2≤r.side∧r.side≤11
 innings:1≤r.innings∧r.innings≤2
 overs:0≤r.overs∧r.overs≤90
 balls:4≤r.balls∧r.balls≤8
 quota:0≤r.quota∧r.quota≤90
 wide:1≤r.wide∧r.wide≤5
 noball:1≤r.noball∧r.noball≤5
 newball:0≤r.newball∧r.newball≤200
 followon:0≤r.followon∧r.followon≤1000
 reviews:0≤r.reviews∧r.reviews≤9
 outside:0≤r.outside∧r.outside≤11
theorem PT {r:Rul} (h:Km r=0):RulOk r:=by
 unfold Km F1 at h;cases hn:OX r.name with
 | false=>rw [hn] at h;cases h
 | true =>
  cases hr:G5 r.side r.innings r.overs r.balls r.quota r.wide r.noball r.newball r.followon r.reviews r.outside with
  | false=>rw [hn,hr] at h;cases h
  | true =>
   unfold G5 at hr;simp only [Bool.and_eq_true,Si] at hr;obtain ⟨⟨⟨⟨⟨⟨⟨⟨⟨⟨h1,h2⟩,h3⟩,h4⟩,h5⟩,h6⟩,h7⟩,h8⟩,h9⟩,h10⟩,h11⟩:=hr;exact ⟨h1,h2,h3,h4,h5,h6,h7,h8,h9,h10,h11⟩
def Bb (x:Int):Prop:=0≤x∧x≤1000000000
structure InnOk (r:Rul) (s:Inn):Prop where
 code:Km r=0
 side:1≤s.side∧s.side≤2
 lb:(s.batters.length:Int)=r.side
 ld:(s.bowled.length:Int)=r.side
 lz:(s.subs.length:Int)=r.side
 ending:s.ending≤5
 st:0≤s.striker∧s.striker≤r.side
 ot:0≤s.other∧s.other≤r.side
 bat:PK s.batters s.striker s.other s.wickets=true
 bow:0≤s.bowler∧s.bowler≤r.side
 kee:0≤s.keeper∧s.keeper≤r.side
 dw:Hx s.bowlers r.side=true
 df:Hx s.before r.side=true
 ov:Sp r.overs s.overs=true
 io:0≤s.inover∧s.inover≤r.balls - 1
 target:Bb s.target
 runs:Bb s.runs
 wides:Bb s.wides
 noballs:Bb s.noballs
 byes:Bb s.byes
 legbyes:Bb s.legbyes
 pens:Bb s.pens
 complete:Bb s.complete
 ballage:Bb s.ballage
 outside:Bb s.outside
 rev1:Bb s.rev1
 rev2:Bb s.rev2
 bowled:IH ET s.bowled=false
theorem Yw {x:Int}:ET x=false↔Bb x:=by
 unfold ET Bb;rw [Bool.not_eq_false',Si]
theorem X4 (a b c d e f g h i j k l:Int):IH ET (Ug a b c d e f g h i j k l)=false↔Bb a∧Bb b∧Bb c∧Bb d∧Bb e∧Bb f∧Bb g∧Bb h∧Bb i∧Bb j∧Bb k∧Bb l:=by
 rw [JT];simp only [Ug,List.any_cons,List.any_nil,Bool.or_false,TZ,ZE,Bool.or_eq_false_iff,Yw]
theorem Rd {r:Rul} (h:RulOk r):IntKind.i64.wrap (r.balls - 1)=r.balls - 1:=by
 have:=h.balls;exact EX (by omega) (by omega)
theorem V1 {x:Int}:(!iLt 5 x)=true↔x≤5:=by
 rw [Bool.not_eq_true'];simp only [iLt,decide_eq_false_iff_not];omega
theorem XP {r:Rul} {s:Inn}:Ll r s=true↔InnOk r s:=by
 unfold Ll Ri;simp only [Bool.and_eq_true,Bool.not_eq_true',X4,Si];constructor
 ·intro ⟨h1,h2,h3,h4,h5,h6,h7,h8,h9,h10,h11,h12,h13,h14,h15,⟨n1,n2,n3,n4,n5,n6,n7,n8,n9,n10,n11,n12⟩,h17⟩;have hc:Km r=0:=beq_iff_eq.1 h1;exact ⟨hc,h2,beq_iff_eq.1 h3,beq_iff_eq.1 h4,beq_iff_eq.1 h5,V1.1 (by rw [h6];rfl),h7,h8,h9,h10,h11,h12,h13,h14,by rw [Rd (PT hc)] at h15;exact h15,n1,n2,n3,n4,n5,n6,n7,n8,n9,n10,n11,n12,h17⟩
 ·intro h;have h6:=V1.2 h.ending;rw [Bool.not_eq_true'] at h6;exact ⟨beq_iff_eq.2 h.code,h.side,beq_iff_eq.2 h.lb,beq_iff_eq.2 h.ld,beq_iff_eq.2 h.lz,h6,h.st,h.ot,h.bat,h.bow,h.kee,h.dw,h.df,h.ov,by rw [Rd (PT h.code)];exact h.io,
   ⟨h.target,h.runs,h.wides,h.noballs,h.byes,h.legbyes,h.pens,h.complete,h.ballage,h.outside,h.rev1,h.rev2⟩,h.bowled⟩
end Go.Px
end
section
namespace Go.Px
set_option maxRecDepth 100000
structure BatOk (L:Rows) (s n wk:Int):Prop where
 le:∀ i,i<L.length→atI L i 0≤3
 at1:∀ i,i<L.length→(atI L i 0=1↔(s=(i:Int)+1∨n=(i:Int)+1))
 here:Rf L=true→s≠0∨n≠0
 ne:s≠0→s≠n
 wk:wk=Qn L
end Go.Px
end
section
namespace Go.Px
set_option maxRecDepth 100000
structure Small (s:Inn):Prop where
 target:s.target≤999999900
 runs:s.runs≤999999900
 wides:s.wides≤999999900
 noballs:s.noballs≤999999900
 byes:s.byes≤999999900
 legbyes:s.legbyes≤999999900
 pens:s.pens≤999999900
 complete:s.complete≤999999900
 ballage:s.ballage≤999999900
 rev1:s.rev1≤999999900
 rev2:s.rev2≤999999900
 bowled:∀ j,j<s.bowled.length→atI s.bowled j 0≤999999900
end Go.Px
end
