/-
  RunsWhole returns true for every input, and its arguments read afterwards as before. No condition.
-/
import Derived.Test.YtfedfekakecnfaaGreatRows
import Derived.Test.YtfedfekakecnfaaGreatM5
import Derived.Test.YtfedfekakecnfaaGreatM6
import Derived.Test.YtfedfekakecnfaaGreatM7
import Derived.Test.YtfedfekakecnfaaGreatM8
set_option linter.unusedSimpArgs false
set_option linter.unusedVariables false
namespace Go.Proofs.YtfedfekakecnfaaGreat
open Go.Am Go.ChangeShapes Go.WideShapes Go.ChangeAt Go.RowKit
set_option linter.unusedSimpArgs false
set_option linter.unusedVariables false
set_option maxRecDepth 100000
theorem own:ownKnob Tryz.prog.godebug=none:=by kernel_rfl
theorem yZ:laidOutB Tryz.prog=true:=by kernel_rfl
theorem zL:mapsRowed Tryz.prog=true:=by kernel_rfl
theorem JNP:TP Tryz.prog=true:=by kernel_rfl
theorem JMB(os:Os)(o:os.Started)(H:Type)(enc:TypeId×Value->H):
  ReturnsInHanded {} Tryz.checked os 6 .any (Rows.runsWholeSpec.pre6 enc Tryz.prog Tryz.f6 Rows.runsWholeRow.domain false) (Rows.runsWholeSpec.post enc Tryz.prog Tryz.f6 false true false false):=by
 refine returnsInHanded_of_change (C:=Tryz.checked) own o (by kernel_rfl) Tryz.func6
  (ChangeSpec.witness6 (enc:=enc) (C:=Tryz.checked) false ⟨#[], #[.slice none 0 0,.int .u8 0,.int .u8 0,.int .u8 0,.int .u8 0],[]⟩ 8 (by kernel_rfl) (by kernel_rfl) (by kernel_rfl) (by kernel_rfl)) ?_
 intro W base args ds gs I r K S _;have g: ∀(j:Nat) t v,Tryz.f6.params[j]?=some t->args[j]?=some v->Value.okWide Tryz.prog W .any base t v:=r;have J:=K;obtain⟨p,q,F,hV,rfl,am,aw⟩:=K;have G:DataW.TrodAll enc Tryz.prog W 0 (λ_=>true) true Tryz.f6.params.toList args.toList ds p:=F;rw[Tryz.params6]at G g;obtain⟨A,ai,d0,af,p0,q0,Q,rfl,rfl,h0,r0⟩:=trodAll_cons G;obtain⟨z,ae,d1,ap,p1,q1,rfl,rfl,rfl,h1,Y⟩:=trodAll_cons r0;obtain⟨E,av,d2,ak,p2,q2,rfl,rfl,rfl,h2,r2⟩:=trodAll_cons Y;obtain⟨B,aq,d3,al,p3,q3,rfl,rfl,rfl,h3,V⟩:=trodAll_cons r2;obtain⟨D,an,d4,ax,p4,q4,rfl,rfl,rfl,h4,Z⟩:=trodAll_cons V;obtain⟨rfl,rfl,rfl⟩:=trodAll_nil Z;obtain rfl:args= #[A,z,E,B,D]:=by cases args;simp_all
 obtain⟨au,y0,M⟩:=MG yZ zL (n:=12) (by kernel_rfl) (g 0 22 A rfl rfl) h0;obtain⟨x0,rfl,w0⟩:=rdT 12 (.l (.i .u8)) 22 (by kernel_rfl) _ y0;rw[LS (lns []) (agg:=false) (by kernel_rfl) (λ_=>by first|rfl|contradiction) x0]at M;obtain⟨ao,T,O⟩:=MG yZ zL (n:=12) (by kernel_rfl) (g 1 5 z rfl rfl) h1;obtain⟨X,rfl,w1⟩:=rdT 12 (.i .u8) 5 (by kernel_rfl) _ T;rw[LS (lns []) (agg:=false) (by kernel_rfl) (λ_=>by first|rfl|contradiction) X]at O;obtain⟨ag,y2,P⟩:=MG yZ zL (n:=12) (by kernel_rfl) (g 2 5 E rfl rfl) h2;obtain⟨x2,rfl,w2⟩:=rdT 12 (.i .u8) 5 (by kernel_rfl) _ y2;rw[LS (lns []) (agg:=false) (by kernel_rfl) (λ_=>by first|rfl|contradiction) x2]at P;obtain⟨aj,R,N⟩:=MG yZ zL (n:=12) (by kernel_rfl) (g 3 5 B rfl rfl) h3;obtain⟨x3,rfl,w3⟩:=rdT 12 (.i .u8) 5 (by kernel_rfl) _ R;rw[LS (lns []) (agg:=false) (by kernel_rfl) (λ_=>by first|rfl|contradiction) x3]at N;obtain⟨ah,y4,L⟩:=MG yZ zL (n:=12) (by kernel_rfl) (g 4 5 D rfl rfl) h4;obtain⟨x4,rfl,U⟩:=rdT 12 (.i .u8) 5 (by kernel_rfl) _ y4;rw[LS (lns []) (agg:=false) (by kernel_rfl) (λ_=>by first|rfl|contradiction) x4]at L;have run:=JMl X2.1 (xs:=[DZ false (.l (.i .u8)) x0,DZ false (.i .u8) X,DZ false (.i .u8) x2,DZ false (.i .u8) x3,DZ false (.i .u8) x4]) (x:=(x0,X,x2,x3,x4)) rfl (X5 w0 w1 w2 w3 U) rfl;refine(JGz JNf (f:=6) (vals:= #[A,z,E,B,D]) (w:=W) rfl (λi a v h k=>?_) run).mono λe W' ⟨he,y⟩=>?_
 match i with
 |0=>simp at h k;subst h k;exact M
 |1=>simp at h k;subst h k;exact O
 |2=>simp at h k;subst h k;exact P
 |3=>simp at h k;subst h k;exact N
 |4=>simp at h k;subst h k;exact L
 |i+5=>simp at h
 subst he;exact⟨_,rfl,JIA yZ zL JNP (by rw[Tryz.params6];decide+kernel) (by kernel_rfl) (tb:=4) (by kernel_rfl) rfl (λy=>by subst y;rfl) J y⟩
theorem JHe:Tryz.f6.params.all (Tryz.prog.readableRec ·)=true:=by kernel_rfl
theorem JJF:(Rows.runsWholeRow.inPlace==Tryz.prog.inPlace 6)=true:=by kernel_rfl
theorem JOa:(Rows.runsWholeRow.unfollowed==Tryz.prog.unfollowed 6)=true:=by kernel_rfl
theorem JNB:(Rows.runsWholeRow.recurses==Tryz.prog.recurses 6)=true:=by kernel_rfl
theorem JKq:(Rows.runsWholeRow.named==Tryz.prog.varsNamed 6)=true:=by kernel_rfl
theorem JMX:(Rows.runsWholeRow.plainKeys==Tryz.prog.plainKeys)=true:=by kernel_rfl
theorem JIr:joinedFacts Tryz.prog 6 Tryz.f6 Rows.runsWholeSpec Rows.runsWholeRow=true:=by
 unfold joinedFacts;rw[yZ,zL,JHe,JJF,JOa,JNB,JKq,JMX]
 kernel_rfl
theorem JOF:Rows.runsWholeRow.holds Tryz.pinned (OpenSpec.ofChange Rows.runsWholeSpec):=
 OpenClaim.holds_of_wide 6 Tryz.f6 rfl rfl rfl rfl rfl rfl rfl ⟨rfl,rfl,rfl,rfl,rfl⟩ rfl rfl rfl rfl rfl (by kernel_rfl) Tryz.func6 JIr
  (of_decide_eq_true (by kernel_rfl)) (by unfold Func.isWrapper;first|(rw[if_pos (by decide+kernel)];kernel_rfl)|(rw[if_neg (by decide+kernel)];exact⟨rfl,rfl⟩))
  (λos e H enc _=>JMB os e H enc)
theorem runsWhole_proved:Rows.RunsWholeSaid:=JOF
end Go.Proofs.YtfedfekakecnfaaGreat
