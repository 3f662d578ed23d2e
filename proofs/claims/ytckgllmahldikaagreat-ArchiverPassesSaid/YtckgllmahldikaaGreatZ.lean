/-
  ArchiverPasses returns true for every input, and its arguments read afterwards as before. No condition.
-/
import Derived.Test.YtckgllmahldikaaGreatRows
import Derived.Test.YtckgllmahldikaaGreatM5
import Derived.Test.YtckgllmahldikaaGreatM7
import Derived.Test.YtckgllmahldikaaGreatM8
import Derived.Test.YtckgllmahldikaaGreatM9
set_option linter.unusedSimpArgs false
set_option linter.unusedVariables false
namespace Go.Proofs.YtckgllmahldikaaGreat
open Go.Am Go.ChangeShapes Go.WideShapes Go.ChangeAt Go.RowKit
set_option linter.unusedSimpArgs false
set_option linter.unusedVariables false
set_option maxRecDepth 100000
theorem own:ownKnob Tryz.prog.godebug=none:=by kernel_rfl
theorem gd:laidOutB Tryz.prog=true:=by kernel_rfl
theorem TJ:mapsRowed Tryz.prog=true:=by kernel_rfl
theorem JQw:YI Tryz.prog=true:=by kernel_rfl
theorem JP7(os:Os)(h:os.Started)(H:Type)(enc:TypeId×Value->H):
  ReturnsInHanded {} Tryz.checked os 6 .any (Rows.archiverPassesSpec.pre6 enc Tryz.prog Tryz.f6 Rows.archiverPassesRow.domain false) (Rows.archiverPassesSpec.post enc Tryz.prog Tryz.f6 false true false false):=by
 refine returnsInHanded_of_change (C:=Tryz.checked) own h (by kernel_rfl) Tryz.func6
  (ChangeSpec.witness6 (enc:=enc) (C:=Tryz.checked) false ⟨#[], #[.slice none 0 0,.int .u8 0],[]⟩ 8 (by kernel_rfl) (by kernel_rfl) (by kernel_rfl) (by kernel_rfl)) ?_
 intro W base args L gs E o B M _;have g: ∀(j:Nat) t v,Tryz.f6.params[j]?=some t->args[j]?=some v->Value.okWide Tryz.prog W .any base t v:=o;have F:=B;obtain⟨p,q,D,hV,rfl,a3,a1⟩:=B;have hA:DataW.TrodAll enc Tryz.prog W 0 (λ_=>true) true Tryz.f6.params.toList args.toList L p:=D;rw[Tryz.params6]at hA g;obtain⟨A,a2,d0,V,p0,q0,J,rfl,rfl,P,Q⟩:=trodAll_cons hA;obtain⟨z,U,d1,a0,p1,q1,rfl,rfl,rfl,h1,O⟩:=trodAll_cons Q;obtain⟨rfl,rfl,rfl⟩:=trodAll_nil O;obtain rfl:args= #[A,z]:=by cases args;simp_all
 obtain⟨Y,S,I⟩:=Qd gd TJ (n:=12) (by kernel_rfl) (g 0 22 A rfl rfl) P;obtain⟨x0,rfl,R⟩:=rdT 12 (.l (.i .u8)) 22 (by kernel_rfl) _ S;rw[Ot (_v []) (agg:=false) (by kernel_rfl) (λ_=>by first|rfl|contradiction) x0]at I;obtain⟨Z,K,G⟩:=Qd gd TJ (n:=12) (by kernel_rfl) (g 1 5 z rfl rfl) h1;obtain⟨X,rfl,N⟩:=rdT 12 (.i .u8) 5 (by kernel_rfl) _ K;rw[Ot (_v []) (agg:=false) (by kernel_rfl) (λ_=>by first|rfl|contradiction) X]at G;have run:=JON Jih.1 (xs:=[vq false (.l (.i .u8)) x0,vq false (.i .u8) X]) (x:=(x0,X)) rfl (Ji5 R N) rfl;refine(JI8 JPS (f:=6) (vals:= #[A,z]) (w:=W) rfl (λi a v k r=>?_) run).mono λe W' ⟨T,y⟩=>?_
 match i with
 |0=>simp at k r;subst k r;exact I
 |1=>simp at k r;subst k r;exact G
 |i+2=>simp at k
 subst T;exact⟨_,rfl,JKc gd TJ JQw (by rw[Tryz.params6];decide+kernel) (by kernel_rfl) (tb:=4) (by kernel_rfl) rfl (λy=>by subst y;rfl) F y⟩
theorem JIO:Tryz.f6.params.all (Tryz.prog.readableRec ·)=true:=by kernel_rfl
theorem JLt:(Rows.archiverPassesRow.inPlace==Tryz.prog.inPlace 6)=true:=by kernel_rfl
theorem JQT:(Rows.archiverPassesRow.unfollowed==Tryz.prog.unfollowed 6)=true:=by kernel_rfl
theorem JQi:(Rows.archiverPassesRow.recurses==Tryz.prog.recurses 6)=true:=by kernel_rfl
theorem JMn:(Rows.archiverPassesRow.named==Tryz.prog.varsNamed 6)=true:=by kernel_rfl
theorem JPB:(Rows.archiverPassesRow.plainKeys==Tryz.prog.plainKeys)=true:=by kernel_rfl
theorem JK4:joinedFacts Tryz.prog 6 Tryz.f6 Rows.archiverPassesSpec Rows.archiverPassesRow=true:=by
 unfold joinedFacts;rw[gd,TJ,JIO,JLt,JQT,JQi,JMn,JPB]
 kernel_rfl
theorem JRv:Rows.archiverPassesRow.holds Tryz.pinned (OpenSpec.ofChange Rows.archiverPassesSpec):=
 OpenClaim.holds_of_wide 6 Tryz.f6 rfl rfl rfl rfl rfl rfl rfl ⟨rfl,rfl,rfl,rfl,rfl⟩ rfl rfl rfl rfl rfl (by kernel_rfl) Tryz.func6 JK4
  (of_decide_eq_true (by kernel_rfl)) (by unfold Func.isWrapper;first|(rw[if_pos (by decide+kernel)];kernel_rfl)|(rw[if_neg (by decide+kernel)];exact⟨rfl,rfl⟩))
  (λos e H enc _=>JP7 os e H enc)
theorem archiverPasses_proved:Rows.ArchiverPassesSaid:=JRv
end Go.Proofs.YtckgllmahldikaaGreat
