/-
  RunsExact returns true for every input, and its arguments read afterwards as before. No condition.
-/
import Derived.Test.YtfedfekakecnfaaGreatRows
import Derived.Test.YtfedfekakecnfaaGreatM5
import Derived.Test.YtfedfekakecnfaaGreatM6
import Derived.Test.YtfedfekakecnfaaGreatM7
import Derived.Test.YtfedfekakecnfaaGreatM8
set_option linter.unusedSimpArgs false
set_option linter.unusedVariables false
namespace Go.Proofs.YtfedfekakecnfaaGreat
open Go.Am Go.ChangeShapes Go.WideShapes Go.ChangeAt Go.RowKit
set_option linter.unusedSimpArgs false
set_option linter.unusedVariables false
set_option maxRecDepth 100000
theorem own:ownKnob Tryz.prog.godebug=none:=by kernel_rfl
theorem xH:laidOutB Tryz.prog=true:=by kernel_rfl
theorem xQ:mapsRowed Tryz.prog=true:=by kernel_rfl
theorem Zm:QQ Tryz.prog=true:=by kernel_rfl
theorem JM7(os:Os)(o:os.Started)(H:Type)(enc:TypeId×Value->H):
  ReturnsInHanded {} Tryz.checked os 7 .any (Rows.runsExactSpec.pre6 enc Tryz.prog Tryz.f7 Rows.runsExactRow.domain false) (Rows.runsExactSpec.post enc Tryz.prog Tryz.f7 false true false false):=by
 refine returnsInHanded_of_change (C:=Tryz.checked) own o (by kernel_rfl) Tryz.func7
  (ChangeSpec.witness6 (enc:=enc) (C:=Tryz.checked) false ⟨#[], #[.slice none 0 0,.agg #[.int .i64 0,.int .i64 0,.int .i64 0,.int .i64 0,.int .i64 0,.slice none 0 0],.int .i64 0,.int .i64 0,.int .i64 0],[]⟩ 8 (by kernel_rfl) (by kernel_rfl) (by kernel_rfl) (by kernel_rfl)) ?_
 intro W base args S gs E r G M _;have g: ∀(j:Nat) t v,Tryz.f7.params[j]?=some t->args[j]?=some v->Value.okWide Tryz.prog W .any base t v:=r;have F:=G;obtain⟨p,q,B,hV,rfl,ag,an⟩:=G;have D:DataW.TrodAll enc Tryz.prog W 0 (λ_=>true) true Tryz.f7.params.toList args.toList S p:=B;rw[Tryz.params7]at D g;obtain⟨v0,ac,d0,a9,p0,q0,K,rfl,rfl,h0,Y⟩:=trodAll_cons D;obtain⟨z,a8,d1,aj,p1,q1,rfl,rfl,rfl,h1,Q⟩:=trodAll_cons Y;obtain⟨A,am,d2,ae,p2,q2,rfl,rfl,rfl,h2,U⟩:=trodAll_cons Q;obtain⟨v3,ak,d3,af,p3,q3,rfl,rfl,rfl,Z,P⟩:=trodAll_cons U;obtain⟨v4,ah,d4,ao,p4,q4,rfl,rfl,rfl,h4,R⟩:=trodAll_cons P;obtain⟨rfl,rfl,rfl⟩:=trodAll_nil R;obtain rfl:args= #[v0,z,A,v3,v4]:=by cases args;simp_all
 obtain⟨al,y0,z0⟩:=IF xH xQ (n:=12) (by kernel_rfl) (g 0 22 v0 rfl rfl) h0;obtain⟨x0,rfl,w0⟩:=rdT 12 (.l (.i .u8)) 22 (by kernel_rfl) _ y0;rw[HR (lns []) (agg:=false) (by kernel_rfl) (λ_=>by first|rfl|contradiction) x0]at z0;obtain⟨ai,N,I⟩:=IF xH xQ (n:=12) (by kernel_rfl) (g 1 32 z rfl rfl) h1;obtain⟨X,rfl,w1⟩:=rdT 12 cK 32 (by kernel_rfl) _ N;rw[HR (lns []) (agg:=true) (by kernel_rfl) (λ_=>by first|rfl|contradiction) X]at I;obtain⟨aa,V,J⟩:=IF xH xQ (n:=12) (by kernel_rfl) (g 2 3 A rfl rfl) h2;obtain⟨x2,rfl,w2⟩:=rdT 12 (.i .i64) 3 (by kernel_rfl) _ V;rw[HR (lns []) (agg:=false) (by kernel_rfl) (λ_=>by first|rfl|contradiction) x2]at J;obtain⟨ad,L,z3⟩:=IF xH xQ (n:=12) (by kernel_rfl) (g 3 3 v3 rfl rfl) Z;obtain⟨x3,rfl,w3⟩:=rdT 12 (.i .i64) 3 (by kernel_rfl) _ L;rw[HR (lns []) (agg:=false) (by kernel_rfl) (λ_=>by first|rfl|contradiction) x3]at z3;obtain⟨ab,T,z4⟩:=IF xH xQ (n:=12) (by kernel_rfl) (g 4 3 v4 rfl rfl) h4;obtain⟨x4,rfl,O⟩:=rdT 12 (.i .i64) 3 (by kernel_rfl) _ T;rw[HR (lns []) (agg:=false) (by kernel_rfl) (λ_=>by first|rfl|contradiction) x4]at z4;have run:=JLR Wp.1 (xs:=[AZ false (.l (.i .u8)) x0,AZ true cK X,AZ false (.i .i64) x2,AZ false (.i .i64) x3,AZ false (.i .i64) x4]) (x:=(x0,X,x2,x3,x4)) rfl (Wk w0 w1 w2 w3 O) rfl;refine(JGv JMJ (f:=7) (vals:= #[v0,z,A,v3,v4]) (w:=W) rfl (λi a v h k=>?_) run).mono λe W' ⟨he,y⟩=>?_
 match i with
 |0=>simp at h k;subst h k;exact z0
 |1=>simp at h k;subst h k;exact I
 |2=>simp at h k;subst h k;exact J
 |3=>simp at h k;subst h k;exact z3
 |4=>simp at h k;subst h k;exact z4
 |i+5=>simp at h
 subst he;exact⟨_,rfl,JIj xH xQ Zm (by rw[Tryz.params7];decide+kernel) (by kernel_rfl) (tb:=4) (by kernel_rfl) rfl (λy=>by subst y;rfl) F y⟩
theorem JH5:Tryz.f7.params.all (Tryz.prog.readableRec ·)=true:=by kernel_rfl
theorem JJl:(Rows.runsExactRow.inPlace==Tryz.prog.inPlace 7)=true:=by kernel_rfl
theorem Y7:(Rows.runsExactRow.unfollowed==Tryz.prog.unfollowed 7)=true:=by kernel_rfl
theorem JN1:(Rows.runsExactRow.recurses==Tryz.prog.recurses 7)=true:=by kernel_rfl
theorem JK1:(Rows.runsExactRow.named==Tryz.prog.varsNamed 7)=true:=by kernel_rfl
theorem JMp:(Rows.runsExactRow.plainKeys==Tryz.prog.plainKeys)=true:=by kernel_rfl
theorem JIb:joinedFacts Tryz.prog 7 Tryz.f7 Rows.runsExactSpec Rows.runsExactRow=true:=by
 unfold joinedFacts;rw[xH,xQ,JH5,JJl,Y7,JN1,JK1,JMp]
 kernel_rfl
theorem Zt:Rows.runsExactRow.holds Tryz.pinned (OpenSpec.ofChange Rows.runsExactSpec):=
 OpenClaim.holds_of_wide 7 Tryz.f7 rfl rfl rfl rfl rfl rfl rfl ⟨rfl,rfl,rfl,rfl,rfl⟩ rfl rfl rfl rfl rfl (by kernel_rfl) Tryz.func7 JIb
  (of_decide_eq_true (by kernel_rfl)) (by unfold Func.isWrapper;first|(rw[if_pos (by decide+kernel)];kernel_rfl)|(rw[if_neg (by decide+kernel)];exact⟨rfl,rfl⟩))
  (λos e H enc _=>JM7 os e H enc)
theorem runsExact_proved:Rows.RunsExactSaid:=Zt
end Go.Proofs.YtfedfekakecnfaaGreat
