/-
  Parts of a proof.
-/
import Derived.Test.YtjbppmdhfbbchaaGreatChecked
import Derived.Test.YtjbppmdhfbbchaaGreatM6
import Derived.Test.YtjbppmdhfbbchaaGreatM7
set_option linter.unusedSimpArgs false
set_option linter.unusedVariables false
section
namespace Go.Proofs.YtjbppmdhfbbchaaGreat
open Go.Am
set_option maxRecDepth 20000
theorem JrR{α:Type}{f:FuncId}{a:α}: ∀{l:List (FuncId×α)},lkA f l=some a->(f,a)∈l
 |[],h=>by cases h
 |(g,b)::r,h=>by
  simp only[lkA]at h;split at h
  ·rename_i e;injection h with h;subst h e;exact List.mem_cons_self
  ·exact JLm _ (JrR h)
def J2f(l:List (FuncId×AFn)):Prop:= ∀x∈l,J8p Tryz.prog x.1 x.2=true
def JrS(l:List (FuncId×Jgg)):Prop:= ∀x∈l,J8p Tryz.prog x.1 x.2.af=true
theorem J63:J2f []:=λ_ h=>by cases h
theorem J4G{f a l}(h:J8p Tryz.prog f a=true)(hl:J2f l):J2f ((f,a)::l):=λx hx=>by
 rcases J3i.1 hx with rfl|hx
 ·exact h
 ·exact hl x hx
theorem JOA:JrS []:=λ_ h=>by cases h
theorem JNu{f a l}(h:J8p Tryz.prog f a.af=true)(hl:JrS l):JrS ((f,a)::l):=λx hx=>by
 rcases J3i.1 hx with rfl|hx
 ·exact h
 ·exact hl x hx
theorem J73{a b}(h:J2f a)(hl:J2f b):J2f (a++b):=λx hx=>(J2a.1 hx).elim (h x) (hl x)
theorem JTj:J2f JLK:=by
 unfold JLK
 repeat (first|exact J63|refine J4G (by kernel_rfl) ?_)
theorem JTJ:J2f JLP:=by
 unfold JLP
 repeat (first|exact J63|refine J4G (by kernel_rfl) ?_)
theorem JTl:J2f JKC:=by
 unfold JKC
 repeat (first|exact J63|refine J4G (by kernel_rfl) ?_)
theorem JTo:J2f JLN:=by
 unfold JLN
 repeat (first|exact J63|refine J4G (by kernel_rfl) ?_)
theorem JTi:J2f JLM:=by
 unfold JLM
 repeat (first|exact J63|refine J4G (by kernel_rfl) ?_)
theorem JTm:J2f JLl:=by
 unfold JLl
 repeat (first|exact J63|refine J4G (by kernel_rfl) ?_)
theorem JTw:J2f JMl:=by
 unfold JMl
 repeat (first|exact J63|refine J4G (by kernel_rfl) ?_)
theorem JTn:J2f JLv:=by
 unfold JLv
 repeat (first|exact J63|refine J4G (by kernel_rfl) ?_)
theorem JTg:J2f JLb:=by
 unfold JLb
 repeat (first|exact J63|refine J4G (by kernel_rfl) ?_)
theorem JTy:J2f JMt:=by
 unfold JMt
 repeat (first|exact J63|refine J4G (by kernel_rfl) ?_)
theorem JRH:J2f JGm:=by
 unfold JGm
 repeat (first|exact J63|refine J4G (by kernel_rfl) ?_)
theorem JRL:J2f JFo:=by
 unfold JFo
 repeat (first|exact J63|refine J4G (by kernel_rfl) ?_)
theorem JQK:J2f fns:=J73 JTj<|J73 JTJ<|J73 JTl<|J73 JTo<|J73 JTi<|J73 JTm<|J73 JTw<|J73 JTn<|J73 JTg<|J73 JTy<|J73 JRH<|JRL
theorem JQE:JrS fks:=by
 unfold fks
 repeat (first|exact JOA|refine JNu (by kernel_rfl) ?_)
def JrP(l:List (FuncId×Prm)):Prop:= ∀x∈l,∀args blks r,x.2 args blks=some r->J85 Tryz.prog x.1 args blks r
theorem JNZ:JrP []:=λ_ h=>by cases h
theorem JrF{f a l}(h: ∀args blks r,a args blks=some r->J85 Tryz.prog f args blks r)(hl:JrP l):JrP ((f,a)::l):=λx hx=>by
 rcases J3i.1 hx with rfl|hx
 ·exact h
 ·exact hl x hx
theorem JQl:JrP fps:=JrF JsR<|JrF JGP<|JrF Jze<|JNZ
theorem mixed:Tryz.prog.follows .mixedOrders=true:=by kernel_rfl
def JJA:PS:=λ_=>none
theorem JRN:J5J Tryz.prog (AF (JOc JJA)):=by
 refine JTx mixed (λf e h=>?_) (λf g h=>?_) (λf k h=>?_)
 ·rcases JlV h with⟨x,h1,h2⟩|⟨x,h1,h2⟩|⟨x,h1,h2⟩|⟨x,h1,h2⟩
  ·injection h2 with h2;subst h2;exact JQK _ (JrR h1)
  ·cases h2
  ·cases h2
  ·cases h2
 ·rcases JlV h with⟨x,h1,h2⟩|⟨x,h1,h2⟩|⟨x,h1,h2⟩|⟨x,h1,h2⟩
  ·cases h2
  ·cases h2
  ·injection h2 with h2;subst h2;exact JQl _ (JrR h1)
  ·cases h1
 ·rcases JlV h with⟨x,h1,h2⟩|⟨x,h1,h2⟩|⟨x,h1,h2⟩|⟨x,h1,h2⟩
  ·cases h2
  ·injection h2 with h2;subst h2;exact JQE _ (JrR h1)
  ·cases h2
  ·cases h2
end Go.Proofs.YtjbppmdhfbbchaaGreat
end
