/-
  Parts of a proof.
-/
import Derived.Test.YthnapahopkopbaaGreatChecked
import Derived.Shelf.Spec.SlicesGrow
import Derived.Deep.AppendSrc
import Derived.Shelf.RegionOpenPlain
import Derived.Laws.NewBlocks
import Derived.WalkKit
import Derived.Lib.JoinLaws
import Derived.Lib.Builder
import Derived.KernelRfl
import Derived.WalkSpells
import Derived.Tactics
import Derived.Tactics2
import Derived.Test.YthnapahopkopbaaGreatM3
import Derived.Test.YthnapahopkopbaaGreatM6
set_option linter.unusedSimpArgs false
set_option linter.unusedVariables false
section
namespace Go.Am
set_option maxRecDepth 20000
set_option maxHeartbeats 4000000
noncomputable section
abbrev JdU:=sigE 70 Jo5 J5a::sigE 71 Jhn J3A::sigE 50 Jnt J3z::sigE 25 JhZ J2V::sigE 42 JnR J46::sigE 53 JtK J5k::sigE 54 JiY J23::sigE 64 Jl3 J4s::sigE 24 JeT J3v::sigE 8 JzB J4Y::[]
theorem JmG:AE JdU:=by
 iterate 10 refine stp (λ_=>rfl) ?_ λ_=>by kernel_rfl
 exact ae0
abbrev Jfs:=sigE 41 JrZ J5T::sigE 52 Jmr J5Z::sigE 39 JlI J4t::sigE 40 JrM J5M::sigE 51 Jqi Jrz::sigE 63 Jjw J6Y::sigE 62 Jka J45::sigE 59 Jju J1Y::sigE 60 JvG J5m::sigE 61 Jo9 J48::JdU
theorem Js4:AE Jfs:=by
 iterate 10 refine stp (λ_=>rfl) ?_ λ_=>by kernel_rfl
 exact JmG
abbrev J8l:=sigE 10 JqI J9m::sigE 7 JpZ J7i::sigE 11 JiX J0F::sigE 23 JsY J3h::Jfs
theorem JgH:AE J8l:=by
 iterate 4 refine stp (λ_=>rfl) ?_ λ_=>by kernel_rfl
 exact Js4
theorem Jj1(r x):onO (JhW g_draw_Codes_Next x) (λy=>Jkk (TG.of (sigE 20 g_draw_Codes_Next r::J8l)) J8Q y.1 y.2 (Jc4 g_draw_Codes_Next))=J3O r x:=by kernel_rfl
abbrev Jbi:=sigE 20 g_draw_Codes_Next Jn::J8l
theorem Jj3:AE Jbi:=λp=>⟨Jto (fn:=J8Q) (l:=J8l) rfl (JgH p) rfl Jj1 100,JgH p⟩
abbrev Jie:=sigE 73 Jxv J55::sigE 72 Jy3 J4d::sigE 74 Jxw Jxb::sigE 66 Jxo J7r::sigE 75 Joi J8n::sigE 57 JeP J4u::sigE 68 JiV J6w::sigE 85 JgP J3Y::sigE 99 JjP J0p::sigE 98 JiQ J3P::Jbi
theorem Jyl:AE Jie:=by
 iterate 10 refine stp (λ_=>rfl) ?_ λ_=>by kernel_rfl
 exact Jj3
abbrev Jfp:=sigE 33 Js2 J19::sigE 46 JpO J02::sigE 47 Jt5 J1X::sigE 36 Jq4 Jx::sigE 48 JrT J27::sigE 58 JpV J1e::sigE 69 Jj4 J0l::sigE 49 JoA J1N::sigE 55 JxN J4j::sigE 65 Jxe J54::Jie
theorem JpN:AE Jfp:=by
 iterate 10 refine stp (λ_=>rfl) ?_ λ_=>by kernel_rfl
 exact Jyl
abbrev JgL:=sigE 209 JtG J8c::sigE 208 JqT J5S::sigE 188 JjN J2n::sigE 118 Jrw J2Y::sigE 100 JrB J7e::sigE 131 JvW J1B::sigE 130 Jr3 J18::sigE 177 Js5 J2y::sigE 84 JoD Jr::sigE 34 Jwn J3k::Jfp
theorem Jur:AE JgL:=by
 iterate 10 refine stp (λ_=>rfl) ?_ λ_=>by kernel_rfl
 exact JpN
abbrev Jfe:=sigE 117 JqF J1Q::sigE 164 Jhu J0O::sigE 163 Jsi J0P::sigE 211 JxE J32::sigE 106 JrF JL::sigE 138 JpR J1I::sigE 190 JlB J1S::sigE 191 Jrg J25::sigE 162 Jqn J1z::sigE 210 Jvh J3n::JgL
theorem Jqs:AE Jfe:=by
 iterate 10 refine stp (λ_=>rfl) ?_ λ_=>by kernel_rfl
 exact Jur
abbrev Jdl:=sigE 196 JoL J5e::sigE 152 JtO J0V::sigE 156 JwW J1q::sigE 199 JxM J7k::sigE 154 JxF J0x::sigE 153 JmH J0v::sigE 37 Jlg Jz::sigE 76 Js8 J4w::sigE 86 Jrm J4K::sigE 94 Jra Jq::Jfe
theorem JoP:AE Jdl:=by
 iterate 10 refine stp (λ_=>rfl) ?_ λ_=>by kernel_rfl
 exact Jqs
abbrev JdY:=sigE 151 Jnq J4a::sigE 140 JxP JN::sigE 113 Jxg J0Q::sigE 121 Ju1 J2S::sigE 104 Jyb J2j::sigE 89 JwA J0S::sigE 107 JtW J15::sigE 155 JtE J0A::sigE 198 Jnl J2A::sigE 197 Jxc J3i::Jdl
theorem Jnx:AE JdY:=by
 iterate 10 refine stp (λ_=>rfl) ?_ λ_=>by kernel_rfl
 exact JoP
abbrev Jfm:=sigE 88 Jq2 J31::sigE 105 Jqu J1v::sigE 80 JgZ J2R::sigE 91 JsN J5C::sigE 111 JBp J6W::sigE 148 Jsd J3q::sigE 112 JmY J42::sigE 149 Jsb J24::sigE 150 JoI J8j::sigE 195 JlP J68::JdY
theorem JrQ:AE Jfm:=by
 iterate 10 refine stp (λ_=>rfl) ?_ λ_=>by kernel_rfl
 exact Jnx
abbrev Jdt:=sigE 143 JnP J2E::sigE 192 JqA J3p::sigE 231 Jqx J3o::sigE 145 JpS J1K::sigE 193 JlZ J5W::sigE 144 JtA J7Q::sigE 108 Jp5 J58::sigE 141 Jrd J4M::sigE 139 JqP J2u::sigE 142 Jyc J3m::Jfm
theorem Jns:AE Jdt:=by
 iterate 10 refine stp (λ_=>rfl) ?_ λ_=>by kernel_rfl
 exact JrQ
abbrev JgE:=sigE 219 Jut Jan::sigE 218 JsR J9L::sigE 171 JtV J5H::sigE 79 Jqg J4B::sigE 90 Jsk J2t::sigE 110 JlY J2i::sigE 147 Jr6 J4L::sigE 194 Jy7 J1s::sigE 109 JqZ J9i::sigE 146 JuH J5x::Jdt
theorem JuF:AE JgE:=by
 iterate 10 refine stp (λ_=>rfl) ?_ λ_=>by kernel_rfl
 exact Jns
abbrev Jjg:=sigE 221 JAO J6T::sigE 174 JxK J4f::sigE 220 Jon J4c::sigE 176 JuU J83::sigE 172 Jmt J65::sigE 173 JrH J3S::sigE 128 Jv8 J2T::sigE 126 Jll J1j::sigE 127 Jlh J3N::sigE 170 Jp2 J3u::JgE
theorem JA1:AE Jjg:=by
 iterate 10 refine stp (λ_=>rfl) ?_ λ_=>by kernel_rfl
 exact JuF
abbrev Jdf:=sigE 214 JnV J8k::sigE 239 Jqk J9j::sigE 203 Jym J08::sigE 120 JvI Jal::sigE 166 Jxu Jb3::sigE 96 JuC Ja7::sigE 125 Jos J6B::sigE 97 JwB J0L::sigE 129 Jwm J0U::sigE 175 Jn3 J38::Jjg
theorem Jno:AE Jdf:=by
 iterate 10 refine stp (λ_=>rfl) ?_ λ_=>by kernel_rfl
 exact JA1
abbrev Jgr:=sigE 168 JvY J5F::sigE 216 JpM J9a::sigE 240 Jt6 J9Y::sigE 243 Jsj Jbu::sigE 217 Js0 J4z::sigE 124 Jov J2D::sigE 169 Jyj J3C::sigE 122 JqS J4C::sigE 167 Jkc J3r::sigE 215 JxZ J8X::Jdf
theorem Ju7:AE Jgr:=by
 iterate 10 refine stp (λ_=>rfl) ?_ λ_=>by kernel_rfl
 exact Jno
abbrev Jgz:=sigE 189 Jua J6G::sigE 135 JkT J3L::sigE 81 Joh J37::sigE 83 JuO J5A::sigE 95 JpX J1y::sigE 119 Jw9 J3g::sigE 165 Jw0 J3f::sigE 212 Joo J39::sigE 213 Jwv J3I::sigE 123 Jvl J5v::Jgr
theorem JuT:AE Jgz:=by
 iterate 10 refine stp (λ_=>rfl) ?_ λ_=>by kernel_rfl
 exact Ju7
abbrev J76:=sigE 228 Jld J7M::sigE 184 JkB J7y::sigE 226 Jrx J7h::sigE 102 Jmv J7G::sigE 136 Jxm J7m::Jgz
theorem Je9:AE J76:=by
 iterate 5 refine stp (λ_=>rfl) ?_ λ_=>by kernel_rfl
 exact JuT
theorem Joy(r x):onO (JhW g_ref09_closed x) (λy=>Jkk (TG.of (sigE 229 g_ref09_closed r::J76)) JaC y.1 y.2 (Jc4 g_ref09_closed))=J5f r x:=by kernel_rfl
abbrev Jdy:=sigE 229 g_ref09_closed Jf5::J76
theorem JoW:AE Jdy:=λp=>⟨Jto (fn:=JaC) (l:=J76) rfl (Je9 p) rfl Joy 1100,Je9 p⟩
abbrev Je4:=sigE 223 JmA J8x::sigE 179 JoG J2F::sigE 185 JmN J2B::sigE 227 Jxf J6o::sigE 187 JwY Jbc::sigE 230 JqM J98::sigE 181 Jw4 J86::sigE 182 Jug J8b::sigE 225 Jnf J3w::sigE 186 Jr0 J9f::Jdy
theorem Jnm:AE Je4:=by
 iterate 10 refine stp (λ_=>rfl) ?_ λ_=>by kernel_rfl
 exact JoW
abbrev Jgl:=sigE 137 JuP J1V::sigE 101 JBu J6O::sigE 134 JjR J1C::sigE 133 Jm6 J2O::sigE 132 JzC J4g::sigE 178 JlG J2P::sigE 222 JmX J5b::sigE 183 Jwt J7U::sigE 180 Jqt J2w::sigE 224 Jmx J7D::Je4
theorem Jvm:AE Jgl:=by
 iterate 10 refine stp (λ_=>rfl) ?_ λ_=>by kernel_rfl
 exact Jnm
abbrev Jfo:=sigE 115 Jqq J1M::sigE 157 Ju9 J5o::sigE 158 Jqa J30::sigE 201 JoX J49::sigE 232 JwH J4m::sigE 200 Jqp J3U::sigE 114 JwO J9S::sigE 78 Jgg J2q::sigE 87 JzT J79::sigE 103 Jtp J5E::Jgl
theorem Jrf:AE Jfo:=by
 iterate 10 refine stp (λ_=>rfl) ?_ λ_=>by kernel_rfl
 exact Jvm
abbrev Jf6:=sigE 207 Jr1 J95::sigE 238 Jt9 Jad::sigE 242 JvA Jai::sigE 159 Jub J4n::sigE 204 Jp7 J5c::sigE 234 JgU J2K::sigE 233 Jfi JE::sigE 235 JfC J1T::sigE 202 JlO J1x::sigE 92 JqV J4J::Jfo
theorem Jsc:AE Jf6:=by
 iterate 10 refine stp (λ_=>rfl) ?_ λ_=>by kernel_rfl
 exact Jrf
abbrev JcP:=sigE 160 JkF J3D::sigE 206 Jv7 J5l::sigE 237 Js7 J1l::sigE 205 Jql J4y::sigE 236 JoT J43::sigE 241 JnX J33::sigE 244 Jp0 J8u::sigE 247 JgS J40::sigE 246 Jfl J1a::sigE 245 Joc J44::Jf6
theorem Jla:AE JcP:=by
 iterate 10 refine stp (λ_=>rfl) ?_ λ_=>by kernel_rfl
 exact Jsc
abbrev Jji:=sigE 21 JAa J6V::sigE 32 JgO J2J::sigE 45 Jg8 J2p::sigE 56 Jx3 J6q::sigE 67 JeM J2c::sigE 77 Jf4 J0R::sigE 82 JeA J1Z::sigE 93 Jv1 J7P::sigE 116 Jtw J4k::sigE 161 Jrc J4H::JcP
theorem JBs:AE Jji:=by
 iterate 10 refine stp (λ_=>rfl) ?_ λ_=>by kernel_rfl
 exact Jla
abbrev Jcj:=sigE 3 Jda J3W::sigE 9 Jqm J4A::sigE 22 JtU J3M::sigE 29 Jqo J2x::sigE 35 Jl7 J2k::sigE 38 Jo1 J5d::sigE 43 Jlf J12::Jji
theorem Jd8:AE Jcj:=by
 iterate 7 refine stp (λ_=>rfl) ?_ λ_=>by kernel_rfl
 exact JBs
end
end Go.Am
end
section
namespace Go.Proofs
open Go.Shelf Go.RowKit Go.Lib
set_option linter.unusedSimpArgs false
set_option linter.unusedVariables false
def Tryz.ρG:Ren where
 f:=fun
  |4=>44
  |n=>n
 t:=fun
  |25=>60
  |22=>26
  |n=>n
 g:=λn=>n
theorem Tryz.growE:Lays8.n4 Tryz.prog Tryz.ρG where
 mixed:=by kernel_rfl
 f4:=⟨"slices.Grow[[]pagemend/api.Entry,pagemend/api.Entry]",by decide,by kernel_rfl⟩
 t0:=Tryz.underlying0
 a0:=Tryz.isAgg0
 z0:=Tryz.sizeOf0
 v0:=Tryz.zeroValue0
 t3:=Tryz.underlying3
 a3:=Tryz.isAgg3
 z3:=Tryz.sizeOf3
 v3:=Tryz.zeroValue3
 t4:=Tryz.underlying4
 a4:=Tryz.isAgg4
 z4:=Tryz.sizeOf4
 v4:=Tryz.zeroValue4
 t9:=Tryz.underlying9
 a9:=Tryz.isAgg9
 z9:=Tryz.sizeOf9
 v9:=Tryz.zeroValue9
 t20:=Tryz.underlying20
 a20:=Tryz.isAgg20
 z20:=Tryz.sizeOf20
 v20:=Tryz.zeroValue20
 t22:=Tryz.underlying26
 a22:=Tryz.isAgg26
 z22:=Tryz.sizeOf26
 v22:=Tryz.zeroValue26
theorem Tryz.ent_size:(Tryz.prog.info? 60).map (·.size)=some 13:=by kernel_rfl
theorem Tryz.ent_bytes:(Tryz.prog.info? 60).map (·.bytes)=some 128:=by kernel_rfl
theorem Tryz.ent_cells:(Tryz.prog.info? 60).map (λi=>i.zero.map (·.cells.size))=some (some 13):=by kernel_rfl
theorem JlA{B b:Nat}{w:World}(hb:B<=b): ∀(vs:List Value) (o:Nat) (W:World),Below B w W->Below B w (W.setCells b o vs)
 |[],_,_,h=>h
 |v::vs,o,W,h=>JlA hb vs (o+1) _ (Below.setCell h (p:=⟨b,o,none⟩) hb v)
abbrev JmF:=Am.CV 13
theorem JoJ{w W:World}{v:Value}{n:Nat}{cs:List Value}(h:JmF w v n cs)(hb:Below w.heap.size w W):Src Tryz.prog 13 26 v n cs W:=by
 obtain⟨⟨a,c,rfl,hs⟩,hl,h1⟩:=h;rcases hs with rfl|⟨r,o,rfl,hr,hc⟩
 ·have hn:n=0:=by simp at hl;omega
  subst hn;cases a with
  |none=>exact⟨.inl ⟨_,Tryz.underlying26⟩,λ_=>rfl,run_firstCells_none W 13 0 0 c,run_firstCells_none W.drew 13 0 0 c,rfl,h1⟩
  |some a=>exact⟨.inl ⟨_,Tryz.underlying26⟩,λ_=>rfl,run_firstCells_some W 13 0 a 0 c [] rfl (λj u h=>by simp at h),run_firstCells_some W.drew 13 0 a 0 c [] rfl (λj u h=>by simp at h),rfl,h1⟩
 ·exact Src.ofSlice W Tryz.underlying26 ⟨r,o,none⟩ n c cs hl (λj u hj=>by rw[Addr.add_lit,hb.cell hr];exact hc j u hj) h1
theorem Jxl(b:Nat)(vs:List Value)(o:Nat)(w:World)(h: ∀j,j<vs.length->(w.cell? ⟨b,o+j,none⟩).isSome=true)(k:Nat)(hk:(w.cell? ⟨b,k,none⟩).isSome=true):((w.setCells b o vs).cell? ⟨b,k,none⟩).isSome=true:=by
 by_cases e:o<=k/\k<o+vs.length
 ·have:=World.cell?_setCells_in b vs o w h (k-o) (by omega);rw[show o+(k-o)=k by omega]at this;rw[this];rfl
 ·rw[World.cell?_setCells_out b _ _ _ _ (λ_ _=>by dsimp only;omega)];exact hk
structure Ji4(B m:Nat)(l:List Value)(w W:World):Prop where
 below:Below B w W
 sp: ∀j,j<m->(W.cell? ⟨B,j,none⟩).isSome=true
 fz: ∀j,j<m->W.frozen? ⟨B,j,none⟩=false
 at_: ∀(j:Nat) u,l[j]?=some u->W.cell? ⟨B,j,none⟩=some u
theorem Ji4.step{B m:Nat}{l cs:List Value}{w W:World}(h:Ji4 B m l w W)(hm:l.length+cs.length<=m):Ji4 B m (l++cs) w (W.setCells B l.length cs):=by
 have hs: ∀j,j<cs.length->(W.cell? ⟨B,l.length+j,none⟩).isSome=true:=λj hj=>h.sp _ (by omega);refine⟨JlA (Nat.le_refl _) _ _ _ h.below,λj hj=>Jxl B _ _ _ hs j (h.sp j hj),λj hj=>?_,λj u hj=>?_⟩
 ·rw[World.frozen?_setCells];exact h.fz j hj
 ·by_cases hk:j<l.length
  ·rw[List.getElem?_append_left hk]at hj;rw[World.cell?_setCells_out B _ _ _ _ (λ_ _=>.inl hk)];exact h.at_ j u hj
  ·rw[List.getElem?_append_right (by omega)]at hj;have e:j-l.length<cs.length:=(List.getElem?_eq_some_iff.1 hj).1;have:=World.cell?_setCells_in B _ l.length W hs (j-l.length) e;rw[show l.length+(j-l.length)=j by omega]at this;rw[this,<-hj,List.getElem?_eq_getElem e]
theorem JBq(w:World)(c:Array Value)(t:TypeId)(m:Nat)(hm:m<=c.size):Ji4 w.heap.size m [] w (w.drew.alloc (.cells c t)):=by
 have e:(w.drew.alloc (.cells c t)).heap[w.heap.size]?=some (.cells c t):=Array.getElem?_push_size;refine⟨(Below.refl w.heap.size w).drew.alloc (Nat.le_refl _) _,λj hj=>?_,λj hj=>World.frozen?_alloc_new _ _ _ _,λj u h=>by simp at h⟩;have hz:j<c.size:=by omega
 rw[cell_of_heap e,Array.getElem?_eq_getElem hz];rfl
set_option maxHeartbeats 4000000 in
set_option maxRecDepth 100000 in
theorem Tryz.conc(r o S g k:Nat)(v0 v1:Value)(n x:List Value)(w:World)(J:w.cell? ⟨r,o,none⟩=some v0)(h1:w.cell? ⟨r,o+1,none⟩=some v1)
  (I:JmF w v0 g n) (q1:JmF w v1 k x) (hN:1<=g+k) (hb:g+k<=8192):
  Calls Tryz.prog 31 #[.slice (some ⟨r,o,none⟩) 2 S] w λe w'=> ∃G,e=.returned (.slice (some ⟨w.heap.size,0,none⟩) (g+k) G)/\g+k<=G/\Ji4 w.heap.size ((g+k)*13) (n++x) w w':=by
 have mixed:Tryz.prog.follows .mixedOrders=true:=by kernel_rfl
 have hr:r<w.heap.size:=block_lt_of_cell J;obtain⟨a0,T,rfl,s0⟩:=I.shape;obtain⟨a1,O,rfl,s1⟩:=q1.shape;have a2:Go.RowKit.wrap64 ((0:Int)+(g:Int))=(g:Int):=by unfold Go.RowKit.wrap64;omega
 have Y:Go.RowKit.wrap64 ((g:Int)+(k:Int))=((g+k:Nat):Int):=by unfold Go.RowKit.wrap64;omega
 have Z: ¬((g:Int)<0):=by omega
 have W: ¬(((g+k:Nat):Int)<0):=by omega
 go_enter Tryz.func31,Tryz.ntmps31
 go_wp2
 refine wp_loop_rounds 3 ?_;rw[rounds_succ]
 go_wp2
 rw[rounds_succ]
 go_wp2
 rw[rounds_succ];obtain⟨D,y,v⟩:=Option.map_eq_some_iff.1 Tryz.ent_size;have P:D.bytes=128:=by have:=Tryz.ent_bytes;rw[y]at this;simpa using this
 obtain⟨z,K,N⟩: ∃z,D.zero=some z/\z.cells.size=13:=by have:=Tryz.ent_cells;rw[y]at this;simp at this;exact this
 have H:=Any8.slices_Grow_grow Tryz.growE D z y K (by omega) none 0 0 (g+k) [] w (Nat.le_refl _) (by omega) (by rw[P];omega) (by omega) (by simp) (λ_=>rfl) (λa h=>by cases h)
 go_wp2_with (go_at_call 44;refine H.mono ?_)
 rintro e C ⟨rfl,M⟩;have U:=grownCap_ge w (0+(g+k)) 0 60;obtain⟨G,E⟩: ∃G,G=grownCap w (0+(g+k)) 0 60:=⟨_,rfl⟩;have B:grownCap w (0+(g+k)) 0 (Tryz.ρG.t 25)=G:=E.symm;rw[<-E]at U;have A:Ji4 w.heap.size ((g+k)*13) [] w C:=by
  rw[M];refine JBq w _ _ _ ?_;simp[size_zeroCells,N]
  first|done|omega
 rw[B];clear M H E B;have k0:C.cell? ⟨r,o,none⟩=some (.slice a0 g T):=by rw[A.below.cell hr];exact J
 have k1:C.cell? ⟨r,o+1,none⟩=some (.slice a1 k O):=by rw[A.below.cell hr];exact h1
 clear J h1
 go_wp2
 refine wp_loop_rounds 3 ?_;rw[rounds_succ];have L:=JoJ I A.below;rw[<-v]at L;have V:=I.len;have L1:=q1.len
 go_wp2_with (at_builtin;refine wpList_append_room_src _ rfl _ _ 26 26 rfl 60 D Tryz.underlying26 y w.heap.size 0 0 G rfl _ rfl g n L (by omega) (by rw[v];intro j hj;exact A.sp _ (by omega)) (by rw[v];intro j hj;exact A.fz _ (by omega)) ?_)
 have q:Ji4 w.heap.size ((g+k)*13) n w (C.setCells w.heap.size 0 n):=A.step (l:=[]) (by simp;omega);generalize C.setCells w.heap.size 0 n=Q at q⊢;have k1:Q.cell? ⟨r,o+1,none⟩=some (.slice a1 k O):=by rw[q.below.cell hr,<-A.below.cell hr];exact k1
 have R:=JoJ q1 q.below;rw[<-v]at R;rw[rounds_succ]
 go_wp2_with (at_builtin;refine wpList_append_room_src _ rfl _ _ 26 26 rfl 60 D Tryz.underlying26 y w.heap.size 0 g G rfl _ rfl k x R (by omega) (by rw[v];intro j hj;exact q.sp _ (by omega)) (by rw[v];intro j hj;exact q.fz _ (by omega)) ?_)
 have F:Ji4 w.heap.size ((g+k)*13) (n++x) w (Q.setCells w.heap.size n.length x):=q.step (by omega);rw[rounds_succ]
 go_wp2
 go_ret
 refine⟨G,rfl,by omega,?_⟩;rw[V]at F;exact F
theorem Tryz.conc_nil{w:World}{v:Value}{cs:List Value}(h:JmF w v 0 cs)(ty:TypeId):(Builtin.append_ #[26,26] ty #[.slice none 0 0,v]).run Tryz.prog w=.ok (.slice none 0 0) w:=by
 obtain⟨g,e,j⟩:=Option.map_eq_some_iff.1 Tryz.ent_size;have k:g.bytes=128:=by have:=Tryz.ent_bytes;rw[e]at this;simpa using this
 obtain⟨z,n,o⟩: ∃z,g.zero=some z/\z.cells.size=13:=by have:=Tryz.ent_cells;rw[e]at this;simp at this;exact this
 exact(Am.Src.gen (P:=Tryz.prog) (esz:=13) (bytes:=128) (t:=26) (ut:=26) (ty:=ty) (el:=60) (by kernel_rfl) (by kernel_rfl) e j k n (JoJ h (Below.refl _ _))).nil rfl
set_option maxHeartbeats 4000000 in
set_option maxRecDepth 100000 in
theorem Tryz.conc0(r o n:Nat)(v0 v1:Value)(h k:List Value)(w:World)(v:w.cell? ⟨r,o,none⟩=some v0)(h1:w.cell? ⟨r,o+1,none⟩=some v1)
  (g:JmF w v0 0 h) (q1:JmF w v1 0 k):
  Calls Tryz.prog 31 #[.slice (some ⟨r,o,none⟩) 2 n] w λe w'=>e=.returned (.slice none 0 0)/\w'=w:=by
 have mixed:Tryz.prog.follows .mixedOrders=true:=by kernel_rfl
 have q:=λty=>Tryz.conc_nil g ty;have m1:=λty=>Tryz.conc_nil q1 ty;obtain⟨a0,x,rfl,s0⟩:=g.shape;obtain⟨a1,z,rfl,s1⟩:=q1.shape;have j:=Any8.slices_Grow_room Tryz.growE none 0 0 0 w (Nat.le_refl _) (by omega) (by omega) (by omega)
 go_enter Tryz.func31,Tryz.ntmps31
 go_wp2
 refine wp_loop_rounds 3 ?_;rw[rounds_succ]
 go_wp2
 rw[rounds_succ]
 go_wp2
 rw[rounds_succ]
 go_wp2_with (go_at_call 44;refine j.mono ?_)
 rintro e y ⟨rfl,rfl⟩
 go_wp2
 refine wp_loop_rounds 3 ?_;rw[rounds_succ]
 go_wp2_with (at_builtin;refine Lib.wpList_append_run _ rfl _ _ _ _ rfl _ _ rfl rfl _ _ (q _) ?_)
 rw[rounds_succ]
 go_wp2_with (at_builtin;refine Lib.wpList_append_run _ rfl _ _ _ _ rfl _ _ rfl rfl _ _ (m1 _) ?_)
 rw[rounds_succ]
 go_wp2
 go_ret
 exact⟨rfl,rfl⟩
theorem Jk6(args:List Am.AV)(blks:List Am.Blk)(r:Am.Res)(h:Am.Jst 13 args blks=some r):Am.J92 Tryz.prog 31 args blks r:=by
 refine Am.JGz (by decide) ⟨_,Tryz.func31,by decide,by decide⟩ (λr o y k q v0 v1 g j w x h1 v q1 hn=>?_) args blks r h;by_cases hz:k+q=0
 ·obtain rfl:k=0:=by omega
  obtain rfl:q=0:=by omega
  refine(Tryz.conc0 r o y v0 v1 g j w x h1 v q1).mono ?_;rintro e w' ⟨rfl,rfl⟩;exact⟨none,0,rfl,Nat.le_refl _,Below.refl _ _,.inl rfl⟩
 ·refine(Tryz.conc r o y k q v0 v1 g j w x h1 v q1 (by omega) hn).mono ?_;rintro e w' ⟨G,rfl,z,n⟩;refine⟨_,G,rfl,z,n.below,.inr ⟨rfl,?_,n.at_⟩⟩;have:=n.sp 0 (by omega);obtain⟨u,hu⟩:=Option.isSome_iff_exists.1 this;exact block_lt_of_cell hu
end Go.Proofs
end
