/-
  RunsBack returns true for every input, and its arguments read afterwards as before. No condition.
-/
import Derived.Test.YtfedfekakecnfaaGreatRows
import Derived.Test.YtfedfekakecnfaaGreatM6
import Derived.Test.YtfedfekakecnfaaGreatM7
import Derived.Test.YtfedfekakecnfaaGreatM8
set_option linter.unusedSimpArgs false
set_option linter.unusedVariables false
namespace Go.Proofs.YtfedfekakecnfaaGreat
open Go.Am Go.ChangeShapes Go.WideShapes Go.ChangeAt Go.RowKit
set_option linter.unusedSimpArgs false
set_option linter.unusedVariables false
set_option maxRecDepth 100000
theorem own:ownKnob Tryz.prog.godebug=none:=by kernel_rfl
theorem GG:laidOutB Tryz.prog=true:=by kernel_rfl
theorem GX:mapsRowed Tryz.prog=true:=by kernel_rfl
theorem JM4:RA Tryz.prog=true:=by kernel_rfl
theorem JKX(os:Os)(k:os.Started)(H:Type)(enc:TypeId×Value->H):
  ReturnsInHanded {} Tryz.checked os 4 .any (Rows.runsBackSpec.pre6 enc Tryz.prog Tryz.f4 Rows.runsBackRow.domain false) (Rows.runsBackSpec.post enc Tryz.prog Tryz.f4 false true false false):=by
 refine returnsInHanded_of_change (C:=Tryz.checked) own k (by kernel_rfl) Tryz.func4
  (ChangeSpec.witness6 (enc:=enc) (C:=Tryz.checked) false ⟨#[], #[.slice none 0 0,.int .u16 0,.int .u8 0],[]⟩ 8 (by kernel_rfl) (by kernel_rfl) (by kernel_rfl) (by kernel_rfl)) ?_
 intro W base args P gs F r D Q _;have g: ∀(j:Nat) t v,Tryz.f4.params[j]?=some t->args[j]?=some v->Value.okWide Tryz.prog W .any base t v:=r;have G:=D;obtain⟨p,q,E,hV,rfl,aa,a8⟩:=D;have hA:DataW.TrodAll enc Tryz.prog W 0 (λ_=>true) true Tryz.f4.params.toList args.toList P p:=E;rw[Tryz.params4]at hA g;obtain⟨B,a9,d0,a2,p0,q0,L,rfl,rfl,N,V⟩:=trodAll_cons hA;obtain⟨z,a1,d1,a7,p1,q1,rfl,rfl,rfl,h1,M⟩:=trodAll_cons V;obtain⟨A,a4,d2,ab,p2,q2,rfl,rfl,rfl,h2,R⟩:=trodAll_cons M;obtain⟨rfl,rfl,rfl⟩:=trodAll_nil R;obtain rfl:args= #[B,z,A]:=by cases args;simp_all
 obtain⟨a3,S,K⟩:=YY GG GX (n:=12) (by kernel_rfl) (g 0 22 B rfl rfl) N;obtain⟨x0,rfl,Y⟩:=rdT 12 (.l (.i .u8)) 22 (by kernel_rfl) _ S;rw[YE (lns []) (agg:=false) (by kernel_rfl) (λ_=>by first|rfl|contradiction) x0]at K;obtain⟨a5,O,J⟩:=YY GG GX (n:=12) (by kernel_rfl) (g 1 43 z rfl rfl) h1;obtain⟨X,rfl,U⟩:=rdT 12 (.i .u16) 43 (by kernel_rfl) _ O;rw[YE (lns []) (agg:=false) (by kernel_rfl) (λ_=>by first|rfl|contradiction) X]at J;obtain⟨a6,T,I⟩:=YY GG GX (n:=12) (by kernel_rfl) (g 2 5 A rfl rfl) h2;obtain⟨x2,rfl,w2⟩:=rdT 12 (.i .u8) 5 (by kernel_rfl) _ T;rw[YE (lns []) (agg:=false) (by kernel_rfl) (λ_=>by first|rfl|contradiction) x2]at I;have run:=JKD Xt.1 (xs:=[TJ false (.l (.i .u8)) x0,TJ false (.i .u16) X,TJ false (.i .u8) x2]) (x:=(x0,X,x2)) rfl (Wx Y U w2) rfl;refine(JFl JLx (f:=4) (vals:= #[B,z,A]) (w:=W) rfl (λi a v h o=>?_) run).mono λe W' ⟨Z,y⟩=>?_
 match i with
 |0=>simp at h o;subst h o;exact K
 |1=>simp at h o;subst h o;exact J
 |2=>simp at h o;subst h o;exact I
 |i+3=>simp at h
 subst Z;exact⟨_,rfl,JHa GG GX JM4 (by rw[Tryz.params4];decide+kernel) (by kernel_rfl) (tb:=4) (by kernel_rfl) rfl (λy=>by subst y;rfl) G y⟩
theorem JFX:Tryz.f4.params.all (Tryz.prog.readableRec ·)=true:=by kernel_rfl
theorem JIe:(Rows.runsBackRow.inPlace==Tryz.prog.inPlace 4)=true:=by kernel_rfl
theorem JMk:(Rows.runsBackRow.unfollowed==Tryz.prog.unfollowed 4)=true:=by kernel_rfl
theorem JLR:(Rows.runsBackRow.recurses==Tryz.prog.recurses 4)=true:=by kernel_rfl
theorem JIV:(Rows.runsBackRow.named==Tryz.prog.varsNamed 4)=true:=by kernel_rfl
theorem JLg:(Rows.runsBackRow.plainKeys==Tryz.prog.plainKeys)=true:=by kernel_rfl
theorem JH5:joinedFacts Tryz.prog 4 Tryz.f4 Rows.runsBackSpec Rows.runsBackRow=true:=by
 unfold joinedFacts;rw[GG,GX,JFX,JIe,JMk,JLR,JIV,JLg]
 kernel_rfl
theorem JML:Rows.runsBackRow.holds Tryz.pinned (OpenSpec.ofChange Rows.runsBackSpec):=
 OpenClaim.holds_of_wide 4 Tryz.f4 rfl rfl rfl rfl rfl rfl rfl ⟨rfl,rfl,rfl,rfl,rfl⟩ rfl rfl rfl rfl rfl (by kernel_rfl) Tryz.func4 JH5
  (of_decide_eq_true (by kernel_rfl)) (by unfold Func.isWrapper;first|(rw[if_pos (by decide+kernel)];kernel_rfl)|(rw[if_neg (by decide+kernel)];exact⟨rfl,rfl⟩))
  (λos e H enc _=>JKX os e H enc)
theorem runsBack_proved:Rows.RunsBackSaid:=JML
end Go.Proofs.YtfedfekakecnfaaGreat
