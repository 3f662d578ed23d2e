/-
  Parts of a proof.
-/
import Derived.Test.YthnapahopkopbaaGreatChecked
import Derived.Test.YthnapahopkopbaaGreatM6
import Derived.Test.YthnapahopkopbaaGreatM7
set_option linter.unusedSimpArgs false
set_option linter.unusedVariables false
section
namespace Go.Proofs.YthnapahopkopbaaGreat
open Go.Am
set_option maxRecDepth 20000
theorem Jph{α:Type}{f:FuncId}{a:α}: ∀{l:List (FuncId×α)},lkA f l=some a->(f,a)∈l
 |[],h=>by cases h
 |(g,b)::r,h=>by
  simp only[lkA]at h;split at h
  ·rename_i e;injection h with h;subst h e;exact List.mem_cons_self
  ·exact JjM _ (Jph h)
def J2u(l:List (FuncId×AFn)):Prop:= ∀x∈l,J75 Tryz.prog x.1 x.2=true
def Jpj(l:List (FuncId×J9r)):Prop:= ∀x∈l,J75 Tryz.prog x.1 x.2.af=true
theorem J6S:J2u []:=λ_ h=>by cases h
theorem J5Q{f a l}(h:J75 Tryz.prog f a=true)(hl:J2u l):J2u ((f,a)::l):=λx hx=>by
 rcases J2A.1 hx with rfl|hx
 ·exact h
 ·exact hl x hx
theorem JKx:Jpj []:=λ_ h=>by cases h
theorem JJm{f a l}(h:J75 Tryz.prog f a.af=true)(hl:Jpj l):Jpj ((f,a)::l):=λx hx=>by
 rcases J2A.1 hx with rfl|hx
 ·exact h
 ·exact hl x hx
theorem J82{a b}(h:J2u a)(hl:J2u b):J2u (a++b):=λx hx=>(J1Q.1 hx).elim (h x) (hl x)
theorem JPi:J2u JHF:=by
 unfold JHF
 repeat (first|exact J6S|refine J5Q (by kernel_rfl) ?_)
theorem JPJ:J2u JHK:=by
 unfold JHK
 repeat (first|exact J6S|refine J5Q (by kernel_rfl) ?_)
theorem JPk:J2u JGw:=by
 unfold JGw
 repeat (first|exact J6S|refine J5Q (by kernel_rfl) ?_)
theorem JPn:J2u JHI:=by
 unfold JHI
 repeat (first|exact J6S|refine J5Q (by kernel_rfl) ?_)
theorem JPh:J2u JHH:=by
 unfold JHH
 repeat (first|exact J6S|refine J5Q (by kernel_rfl) ?_)
theorem JPl:J2u JHg:=by
 unfold JHg
 repeat (first|exact J6S|refine J5Q (by kernel_rfl) ?_)
theorem JPu:J2u JIe:=by
 unfold JIe
 repeat (first|exact J6S|refine J5Q (by kernel_rfl) ?_)
theorem JPm:J2u JHo:=by
 unfold JHo
 repeat (first|exact J6S|refine J5Q (by kernel_rfl) ?_)
theorem JPf:J2u JH7:=by
 unfold JH7
 repeat (first|exact J6S|refine J5Q (by kernel_rfl) ?_)
theorem JPx:J2u JIj:=by
 unfold JIj
 repeat (first|exact J6S|refine J5Q (by kernel_rfl) ?_)
theorem JMN:J2u fns:=J82 JPi<|J82 JPJ<|J82 JPk<|J82 JPn<|J82 JPh<|J82 JPl<|J82 JPu<|J82 JPm<|J82 JPf<|JPx
theorem JMI:Jpj fks:=by
 unfold fks
 repeat (first|exact JKx|refine JJm (by kernel_rfl) ?_)
def Jpf(l:List (FuncId×Prm)):Prop:= ∀x∈l,∀args blks r,x.2 args blks=some r->J8R Tryz.prog x.1 args blks r
theorem JJT:Jpf []:=λ_ h=>by cases h
theorem JJG{f a l}(h: ∀args blks r,a args blks=some r->J8R Tryz.prog f args blks r)(hl:Jpf l):Jpf ((f,a)::l):=λx hx=>by
 rcases J2A.1 hx with rfl|hx
 ·exact h
 ·exact hl x hx
theorem JMp:Jpf fps:=JJG Jrr<|JJT
theorem mixed:Tryz.prog.follows .mixedOrders=true:=by kernel_rfl
def JFu:PS:=λ_=>none
theorem JNT:J57 Tryz.prog (AF (JK9 JFu)):=by
 refine JPw mixed (λf e h=>?_) (λf g h=>?_) (λf k h=>?_)
 ·rcases JjL h with⟨x,h1,h2⟩|⟨x,h1,h2⟩|⟨x,h1,h2⟩|⟨x,h1,h2⟩
  ·injection h2 with h2;subst h2;exact JMN _ (Jph h1)
  ·cases h2
  ·cases h2
  ·cases h2
 ·rcases JjL h with⟨x,h1,h2⟩|⟨x,h1,h2⟩|⟨x,h1,h2⟩|⟨x,h1,h2⟩
  ·cases h2
  ·cases h2
  ·injection h2 with h2;subst h2;exact JMp _ (Jph h1)
  ·cases h1
 ·rcases JjL h with⟨x,h1,h2⟩|⟨x,h1,h2⟩|⟨x,h1,h2⟩|⟨x,h1,h2⟩
  ·cases h2
  ·injection h2 with h2;subst h2;exact JMI _ (Jph h1)
  ·cases h2
  ·cases h2
end Go.Proofs.YthnapahopkopbaaGreat
end
