/-
  Parts of a proof.
-/
import Derived.Test.YthnapahopkopbaaGreatChecked
import Derived.Test.YthnapahopkopbaaGreatM6
set_option linter.unusedSimpArgs false
set_option linter.unusedVariables false
section
namespace Go.Proofs.YthnapahopkopbaaGreat
open Go.Am
set_option maxRecDepth 20000
theorem Ju5{α:Type}{f:FuncId}{a:α}: ∀{l:List (FuncId×α)},lkA f l=some a->(f,a)∈l
 |[],h=>by cases h
 |(g,b)::r,h=>by
  simp only[lkA]at h;split at h
  ·rename_i e;injection h with h;subst h e;exact List.mem_cons_self
  ·exact JGw _ (Ju5 h)
def J2f(l:List (FuncId×AFn)):Prop:= ∀x∈l,J6C Tryz.prog x.1 x.2=true
def JoK(l:List (FuncId×J93)):Prop:= ∀x∈l,J6C Tryz.prog x.1 x.2.af=true
theorem J6t:J2f []:=λ_ h=>by cases h
theorem J5s{f a l}(h:J6C Tryz.prog f a=true)(hl:J2f l):J2f ((f,a)::l):=λx hx=>by
 rcases J3f.1 hx with rfl|hx
 ·exact h
 ·exact hl x hx
theorem JJB:JoK []:=λ_ h=>by cases h
theorem JIw{f a l}(h:J6C Tryz.prog f a.af=true)(hl:JoK l):JoK ((f,a)::l):=λx hx=>by
 rcases J3f.1 hx with rfl|hx
 ·exact h
 ·exact hl x hx
theorem J7A{a b}(h:J2f a)(hl:J2f b):J2f (a++b):=λx hx=>(J1U.1 hx).elim (h x) (hl x)
theorem JNZ:J2f JGS:=by
 unfold JGS
 repeat (first|exact J6t|refine J5s (by kernel_rfl) ?_)
theorem JOo:J2f JGX:=by
 unfold JGX
 repeat (first|exact J6t|refine J5s (by kernel_rfl) ?_)
theorem JO1:J2f JFL:=by
 unfold JFL
 repeat (first|exact J6t|refine J5s (by kernel_rfl) ?_)
theorem JO5:J2f JGV:=by
 unfold JGV
 repeat (first|exact J6t|refine J5s (by kernel_rfl) ?_)
theorem JNY:J2f JGU:=by
 unfold JGU
 repeat (first|exact J6t|refine J5s (by kernel_rfl) ?_)
theorem JO2:J2f JGv:=by
 unfold JGv
 repeat (first|exact J6t|refine J5s (by kernel_rfl) ?_)
theorem JOc:J2f JHr:=by
 unfold JHr
 repeat (first|exact J6t|refine J5s (by kernel_rfl) ?_)
theorem JO3:J2f JGD:=by
 unfold JGD
 repeat (first|exact J6t|refine J5s (by kernel_rfl) ?_)
theorem JNW:J2f JGm:=by
 unfold JGm
 repeat (first|exact J6t|refine J5s (by kernel_rfl) ?_)
theorem JOe:J2f JHw:=by
 unfold JHw
 repeat (first|exact J6t|refine J5s (by kernel_rfl) ?_)
theorem JLE:J2f fns:=J7A JNZ<|J7A JOo<|J7A JO1<|J7A JO5<|J7A JNY<|J7A JO2<|J7A JOc<|J7A JO3<|J7A JNW<|JOe
theorem JLA:JoK fks:=by
 unfold fks
 repeat (first|exact JJB|refine JIw (by kernel_rfl) ?_)
theorem JO4:Tryz.prog.follows .mixedOrders=true:=by kernel_rfl
def JEH:PS:=λ_=>none
theorem JMB:J4N Tryz.prog (AF (JJd JEH)):=by
 refine JOd JO4 (λf e h=>?_) (λf g h=>?_) (λf k h=>?_)
 ·rcases Jjn h with⟨x,h1,h2⟩|⟨x,h1,h2⟩|⟨x,h1,h2⟩|⟨x,h1,h2⟩
  ·injection h2 with h2;subst h2;exact JLE _ (Ju5 h1)
  ·cases h2
  ·cases h2
  ·cases h2
 ·rcases Jjn h with⟨x,h1,h2⟩|⟨x,h1,h2⟩|⟨x,h1,h2⟩|⟨x,h1,h2⟩
  ·cases h2
  ·cases h2
  ·cases h1
  ·cases h1
 ·rcases Jjn h with⟨x,h1,h2⟩|⟨x,h1,h2⟩|⟨x,h1,h2⟩|⟨x,h1,h2⟩
  ·cases h2
  ·injection h2 with h2;subst h2;exact JLA _ (Ju5 h1)
  ·cases h2
  ·cases h2
end Go.Proofs.YthnapahopkopbaaGreat
end
