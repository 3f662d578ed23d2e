/-
  MergerunsKeeps returns true for every input, and its arguments read afterwards as before. No condition.
-/
import Derived.Test.YtckgllmahldikaaGreatRows
import Derived.Test.YtckgllmahldikaaGreatM4
import Derived.Test.YtckgllmahldikaaGreatM6
import Derived.Test.YtckgllmahldikaaGreatM7
import Derived.Test.YtckgllmahldikaaGreatM8
set_option linter.unusedSimpArgs false
set_option linter.unusedVariables false
namespace Go.Proofs.YtckgllmahldikaaGreat
open Go.Am Go.ChangeShapes Go.WideShapes Go.ChangeAt Go.RowKit
set_option linter.unusedSimpArgs false
set_option linter.unusedVariables false
set_option maxRecDepth 100000
theorem own:ownKnob Tryz.prog.godebug=none:=by kernel_rfl
theorem dx:laidOutB Tryz.prog=true:=by kernel_rfl
theorem SR:mapsRowed Tryz.prog=true:=by kernel_rfl
theorem JSu:XA Tryz.prog=true:=by kernel_rfl
theorem JR6(os:Os)(h:os.Started)(H:Type)(enc:TypeId×Value->H):
  ReturnsInHanded {} Tryz.checked os 4 .any (Rows.mergerunsKeepsSpec.pre6 enc Tryz.prog Tryz.f4 Rows.mergerunsKeepsRow.domain false) (Rows.mergerunsKeepsSpec.post enc Tryz.prog Tryz.f4 false true false false):=by
 refine returnsInHanded_of_change (C:=Tryz.checked) own h (by kernel_rfl) Tryz.func4
  (ChangeSpec.witness6 (enc:=enc) (C:=Tryz.checked) false ⟨#[], #[.slice none 0 0,.int .u8 0],[]⟩ 8 (by kernel_rfl) (by kernel_rfl) (by kernel_rfl) (by kernel_rfl)) ?_
 intro W base args M gs E o B N _;have g: ∀(j:Nat) t v,Tryz.f4.params[j]?=some t->args[j]?=some v->Value.okWide Tryz.prog W .any base t v:=o;have F:=B;obtain⟨p,q,D,hV,rfl,a3,a1⟩:=B;have hA:DataW.TrodAll enc Tryz.prog W 0 (λ_=>true) true Tryz.f4.params.toList args.toList M p:=D;rw[Tryz.params4]at hA g;obtain⟨A,a2,d0,V,p0,q0,J,rfl,rfl,P,Q⟩:=trodAll_cons hA;obtain⟨z,U,d1,a0,p1,q1,rfl,rfl,rfl,h1,K⟩:=trodAll_cons Q;obtain⟨rfl,rfl,rfl⟩:=trodAll_nil K;obtain rfl:args= #[A,z]:=by cases args;simp_all
 obtain⟨Y,S,I⟩:=Ni dx SR (n:=12) (by kernel_rfl) (g 0 22 A rfl rfl) P;obtain⟨x0,rfl,R⟩:=rdT 12 (.l (.i .u8)) 22 (by kernel_rfl) _ S;rw[Mf (lns []) (agg:=false) (by kernel_rfl) (λ_=>by first|rfl|contradiction) x0]at I;obtain⟨Z,L,G⟩:=Ni dx SR (n:=12) (by kernel_rfl) (g 1 5 z rfl rfl) h1;obtain⟨X,rfl,O⟩:=rdT 12 (.i .u8) 5 (by kernel_rfl) _ L;rw[Mf (lns []) (agg:=false) (by kernel_rfl) (λ_=>by first|rfl|contradiction) X]at G;have run:=JQP Ji0.1 (xs:=[ra false (.l (.i .u8)) x0,ra false (.i .u8) X]) (x:=(x0,X)) rfl (JhK R O) rfl;refine(JKk JRU (f:=4) (vals:= #[A,z]) (w:=W) rfl (λi a v k r=>?_) run).mono λe W' ⟨T,y⟩=>?_
 match i with
 |0=>simp at k r;subst k r;exact I
 |1=>simp at k r;subst k r;exact G
 |i+2=>simp at k
 subst T;exact⟨_,rfl,JMm dx SR JSu (by rw[Tryz.params4];decide+kernel) (by kernel_rfl) (tb:=4) (by kernel_rfl) rfl (λy=>by subst y;rfl) F y⟩
theorem JL3:Tryz.f4.params.all (Tryz.prog.readableRec ·)=true:=by kernel_rfl
theorem JNE:(Rows.mergerunsKeepsRow.inPlace==Tryz.prog.inPlace 4)=true:=by kernel_rfl
theorem JSJ:(Rows.mergerunsKeepsRow.unfollowed==Tryz.prog.unfollowed 4)=true:=by kernel_rfl
theorem JSh:(Rows.mergerunsKeepsRow.recurses==Tryz.prog.recurses 4)=true:=by kernel_rfl
theorem JOw:(Rows.mergerunsKeepsRow.named==Tryz.prog.varsNamed 4)=true:=by kernel_rfl
theorem JRA:(Rows.mergerunsKeepsRow.plainKeys==Tryz.prog.plainKeys)=true:=by kernel_rfl
theorem JMf:joinedFacts Tryz.prog 4 Tryz.f4 Rows.mergerunsKeepsSpec Rows.mergerunsKeepsRow=true:=by
 unfold joinedFacts;rw[dx,SR,JL3,JNE,JSJ,JSh,JOw,JRA]
 kernel_rfl
theorem JTc:Rows.mergerunsKeepsRow.holds Tryz.pinned (OpenSpec.ofChange Rows.mergerunsKeepsSpec):=
 OpenClaim.holds_of_wide 4 Tryz.f4 rfl rfl rfl rfl rfl rfl rfl ⟨rfl,rfl,rfl,rfl,rfl⟩ rfl rfl rfl rfl rfl (by kernel_rfl) Tryz.func4 JMf
  (of_decide_eq_true (by kernel_rfl)) (by unfold Func.isWrapper;first|(rw[if_pos (by decide+kernel)];kernel_rfl)|(rw[if_neg (by decide+kernel)];exact⟨rfl,rfl⟩))
  (λos e H enc _=>JR6 os e H enc)
theorem mergerunsKeeps_proved:Rows.MergerunsKeepsSaid:=JTc
end Go.Proofs.YtckgllmahldikaaGreat
