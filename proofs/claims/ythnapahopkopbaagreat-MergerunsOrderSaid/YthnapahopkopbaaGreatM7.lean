/-
  Parts of a proof.
-/
import Derived.Test.YthnapahopkopbaaGreatChecked
import Derived.Shelf.Spec.SlicesGrow
import Derived.Deep.AppendSrc
import Derived.Shelf.RegionOpenPlain
import Derived.Laws.NewBlocks
import Derived.WalkKit
import Derived.Lib.JoinLaws
import Derived.Lib.Builder
import Derived.KernelRfl
import Derived.WalkSpells
import Derived.Tactics
import Derived.Tactics2
import Derived.Test.YthnapahopkopbaaGreatM3
import Derived.Test.YthnapahopkopbaaGreatM6
set_option linter.unusedSimpArgs false
set_option linter.unusedVariables false
section
namespace Go.Am
set_option maxRecDepth 20000
set_option maxHeartbeats 4000000
noncomputable section
abbrev Jed:=sigE 70 JoC J5i::sigE 71 JhW J3D::sigE 50 Jo1 J3C::sigE 25 Jiw J2W::sigE 42 Joo J4d::sigE 53 Juh J5s::sigE 54 Jju J24::sigE 64 JlC J4D::sigE 24 Jfh J3y::sigE 8 JAe J4m::[]
theorem Jnf:AE Jed:=by
 iterate 10 refine stp (λ_=>rfl) ?_ λ_=>by kernel_rfl
 exact ae0
abbrev JfS:=sigE 41 Jsw J5Z::sigE 52 Jn0 J66::sigE 39 Jmh J4E::sigE 40 Jsj J5U::sigE 51 JqP Js6::sigE 63 Jk3 J7a::sigE 62 JkH J4b::sigE 59 Jk1 J1Z::sigE 60 Jwd J5u::sigE 61 JoH J4f::Jed
theorem JsB:AE JfS:=by
 iterate 10 refine stp (λ_=>rfl) ?_ λ_=>by kernel_rfl
 exact Jnf
abbrev J8y:=sigE 10 Jrf J33::sigE 7 Jqw J61::sigE 11 Jjt J0R::sigE 23 Jtw J2c::JfS
theorem Jhe:AE J8y:=by
 iterate 4 refine stp (λ_=>rfl) ?_ λ_=>by kernel_rfl
 exact JsB
theorem Jjx(r x):onO (JeR g_draw_Codes_Next x) (λy=>JkQ (TG.of (sigE 20 g_draw_Codes_Next r::J8y)) J94 y.1 y.2 (Jbt g_draw_Codes_Next))=J3R r x:=by kernel_rfl
abbrev JbD:=sigE 20 g_draw_Codes_Next Jn::J8y
theorem Jjz:AE JbD:=λp=>⟨JtW (fn:=J94) (l:=J8y) rfl (Jhe p) rfl Jjx 100,Jhe p⟩
abbrev JiK:=sigE 73 Jy7 J6t::sigE 72 JyF J5d::sigE 74 Jy8 JxN::sigE 66 Jy0 J7D::sigE 75 JoP J8A::sigE 57 Jfd J4F::sigE 68 Jjr J6C::sigE 85 Jhm J43::sigE 99 Jkm J0q::sigE 98 Jjl J3S::JbD
theorem JyX:AE JiK:=by
 iterate 10 refine stp (λ_=>rfl) ?_ λ_=>by kernel_rfl
 exact Jjz
abbrev JfP:=sigE 33 Jsz J19::sigE 46 Jql J02::sigE 47 JtD J1Y::sigE 36 JqB Jx::sigE 48 Jsq J28::sigE 58 Jqs J1f::sigE 69 JjA J0m::sigE 49 Jp7 J1Q::sigE 55 Jyp J4s::sigE 65 JxQ J5c::JiK
theorem Jqk:AE JfP:=by
 iterate 10 refine stp (λ_=>rfl) ?_ λ_=>by kernel_rfl
 exact JyX
abbrev Jhi:=sigE 209 Jud J8m::sigE 208 Jrq J5Y::sigE 188 Jki J2p::sigE 118 Js3 J2Z::sigE 100 Js8 J7r::sigE 131 Jwu J1D::sigE 130 JrA J18::sigE 177 JsC J2B::sigE 84 Jpa Js::sigE 34 JwZ J3m::JfP
theorem JuY:AE Jhi:=by
 iterate 10 refine stp (λ_=>rfl) ?_ λ_=>by kernel_rfl
 exact Jqk
abbrev JfE:=sigE 117 Jrc J1T::sigE 164 Ji3 J0P::sigE 163 JsP J0Q::sigE 211 Jyg J34::sigE 106 Jsc JR::sigE 138 Jqo J1M::sigE 190 Jma J1V::sigE 191 JrN J26::sigE 162 JqU J1B::sigE 210 JvO J3p::Jhi
theorem JqZ:AE JfE:=by
 iterate 10 refine stp (λ_=>rfl) ?_ λ_=>by kernel_rfl
 exact JuY
abbrev JdC:=sigE 196 Jpi J5m::sigE 152 Jul J0X::sigE 156 Jxy J1s::sigE 199 Jyo J7w::sigE 154 Jyh J0A::sigE 153 Jng J0y::sigE 37 JlP Jz::sigE 76 JsF J4H::sigE 86 JrT J4T::sigE 94 JrH Jq::JfE
theorem Jpm:AE JdC:=by
 iterate 10 refine stp (λ_=>rfl) ?_ λ_=>by kernel_rfl
 exact JqZ
abbrev Jeh:=sigE 151 JnY J4h::sigE 140 Jyr JN::sigE 113 JxS J0S::sigE 121 Juz J2U::sigE 104 JyN J2m::sigE 89 Jxc J0U::sigE 107 Juu J1d::sigE 155 Jub J0C::sigE 198 JnT J2D::sigE 197 JxO J3k::JdC
theorem Jo5:AE Jeh:=by
 iterate 10 refine stp (λ_=>rfl) ?_ λ_=>by kernel_rfl
 exact Jpm
abbrev JfM:=sigE 88 Jqz J32::sigE 105 Jr1 J1x::sigE 80 Jhx J2T::sigE 91 Jtl J5K::sigE 111 JC2 J78::sigE 148 JsK J3s::sigE 112 Jnx J48::sigE 149 JsI J25::sigE 150 Jpf J8v::sigE 195 Jmo J6f::Jeh
theorem Jsn:AE JfM:=by
 iterate 10 refine stp (λ_=>rfl) ?_ λ_=>by kernel_rfl
 exact Jo5
abbrev JdK:=sigE 143 Jom J2H::sigE 192 Jr7 J3r::sigE 231 Jr4 J3q::sigE 145 Jqp J1N::sigE 193 Jmy J63::sigE 144 Ju7 J81::sigE 108 JpC J5g::sigE 141 JrK J4V::sigE 139 Jrm J2x::sigE 142 JyO J3o::JfM
theorem Jo0:AE JdK:=by
 iterate 10 refine stp (λ_=>rfl) ?_ λ_=>by kernel_rfl
 exact Jsn
abbrev Jhb:=sigE 219 Jv0 JaG::sigE 218 Jtp Ja2::sigE 171 Jut J5P::sigE 79 JqN J4L::sigE 90 JsR J2w::sigE 110 Jmx J2l::sigE 147 JrD J4U::sigE 194 JyJ J1u::sigE 109 Jrw J9w::sigE 146 Jve J5F::JdK
theorem Jvc:AE Jhb:=by
 iterate 10 refine stp (λ_=>rfl) ?_ λ_=>by kernel_rfl
 exact Jo0
abbrev JjM:=sigE 221 JBs J74::sigE 174 Jym J4n::sigE 220 JoU J4j::sigE 176 Jvr J8d::sigE 172 Jn2 J6c::sigE 173 Jse J3W::sigE 128 JvF J2V::sigE 126 JlU J1k::sigE 127 JlQ J3Q::sigE 170 Jpz J3x::Jhb
theorem JAE:AE JjM:=by
 iterate 10 refine stp (λ_=>rfl) ?_ λ_=>by kernel_rfl
 exact Jvc
abbrev Jdw:=sigE 214 Jos J8w::sigE 239 JqR J9x::sigE 203 JyY J09::sigE 120 Jwg JaE::sigE 166 Jy6 Jbm::sigE 96 Jv9 Jaq::sigE 125 JoZ J6J::sigE 97 Jxd J0M::sigE 129 JwY J0W::sigE 175 JnC J3b::JjM
theorem JnW:AE Jdw:=by
 iterate 10 refine stp (λ_=>rfl) ?_ λ_=>by kernel_rfl
 exact JAE
abbrev JgY:=sigE 168 Jwx J5N::sigE 216 Jqj J9o::sigE 240 JtE Jaf::sigE 243 JsQ JbQ::sigE 217 Jsx J4K::sigE 124 Jp2 J2G::sigE 169 JyV J3F::sigE 122 Jrp J4M::sigE 167 JkJ J3u::sigE 215 JyB J9b::Jdw
theorem JuF:AE JgY:=by
 iterate 10 refine stp (λ_=>rfl) ?_ λ_=>by kernel_rfl
 exact JnW
abbrev Jh6:=sigE 189 JuI J6O::sigE 135 Jlr J3O::sigE 81 JoO J39::sigE 83 Jvl J5I::sigE 95 Jqu J1A::sigE 119 JwL J3j::sigE 165 JwA J3i::sigE 212 JoV J3c::sigE 213 Jx7 J3L::sigE 123 JvS J5D::JgY
theorem Jvq:AE Jh6:=by
 iterate 10 refine stp (λ_=>rfl) ?_ λ_=>by kernel_rfl
 exact JuF
abbrev J7i:=sigE 228 JlM J7W::sigE 184 Jl8 J7J::sigE 226 Js4 J7u::sigE 102 Jn4 J7Q::sigE 136 JxY J7y::Jh6
theorem Jes:AE J7i:=by
 iterate 5 refine stp (λ_=>rfl) ?_ λ_=>by kernel_rfl
 exact Jvq
theorem Jp5(r x):onO (JeR g_ref09_closed x) (λy=>JkQ (TG.of (sigE 229 g_ref09_closed r::J7i)) JaW y.1 y.2 (Jbt g_ref09_closed))=J5n r x:=by kernel_rfl
abbrev JdP:=sigE 229 g_ref09_closed Jfu::J7i
theorem Jpt:AE JdP:=λp=>⟨JtW (fn:=JaW) (l:=J7i) rfl (Jes p) rfl Jp5 1100,Jes p⟩
abbrev Jen:=sigE 223 Jn9 J8K::sigE 179 Jpd J2I::sigE 185 Jnm J2E::sigE 227 JxR J6u::sigE 187 JxA Jbw::sigE 230 Jrj J9m::sigE 181 JwF J8g::sigE 182 JuO J8l::sigE 225 JnO J3z::sigE 186 Jrx J9t::JdP
theorem JnU:AE Jen:=by
 iterate 10 refine stp (λ_=>rfl) ?_ λ_=>by kernel_rfl
 exact Jpt
abbrev JgS:=sigE 137 Jvm J1X::sigE 101 JC7 J6X::sigE 134 Jko J1E::sigE 133 JmF J2Q::sigE 132 JAf J4o::sigE 178 Jmf J2R::sigE 222 Jnw J5j::sigE 183 Jx5 J86::sigE 180 Jr0 J2z::sigE 224 Jn6 J7N::Jen
theorem JvT:AE JgS:=by
 iterate 10 refine stp (λ_=>rfl) ?_ λ_=>by kernel_rfl
 exact JnU
abbrev JfO:=sigE 115 JqX J1P::sigE 157 JuH J5x::sigE 158 JqH J31::sigE 201 Jpu J4g::sigE 232 Jxj J4v::sigE 200 JqW J3Y::sigE 114 Jxq Ja9::sigE 78 JgM J2s::sigE 87 JAw J7m::sigE 103 JtX J5M::JgS
theorem JrM:AE JfO:=by
 iterate 10 refine stp (λ_=>rfl) ?_ λ_=>by kernel_rfl
 exact JvT
abbrev Jfw:=sigE 207 Jry J9j::sigE 238 JtH Jax::sigE 242 Jw6 JaB::sigE 159 JuJ J4x::sigE 204 JpE J5k::sigE 234 Jhs J2M::sigE 233 JfI JE::sigE 235 Jg2 J1W::sigE 202 Jmn J1z::sigE 92 Jrs J4S::JfO
theorem JsJ:AE Jfw:=by
 iterate 10 refine stp (λ_=>rfl) ?_ λ_=>by kernel_rfl
 exact JrM
abbrev Jd7:=sigE 160 Jlc J3G::sigE 206 JvE J5t::sigE 237 JsE J1n::sigE 205 JqS J4J::sigE 236 Jpq J49::sigE 241 Jou J35::sigE 244 Jpx J8H::sigE 247 Jhp J45::sigE 246 JfL J1a::sigE 245 JoK J4a::Jfw
theorem JlJ:AE Jd7:=by
 iterate 10 refine stp (λ_=>rfl) ?_ λ_=>by kernel_rfl
 exact JsJ
abbrev JjO:=sigE 21 JAN J77::sigE 32 Jhl J2L::sigE 45 JgC J2r::sigE 56 JxF J6w::sigE 67 Jfa J2e::sigE 77 Jft J0T::sigE 82 JeY J20::sigE 93 Jvy J80::sigE 116 Ju3 J4t::sigE 161 JrJ J4Q::Jd7
theorem JC5:AE JjO:=by
 iterate 10 refine stp (λ_=>rfl) ?_ λ_=>by kernel_rfl
 exact JlJ
abbrev J7Z:=sigE 3 Jds Jdo::sigE 9 JqT J3T::sigE 22 Jur J3P::sigE 29 JqV J2A::sigE 35 JlG J2n::sigE 38 Joy J5l::sigE 43 JlO J13::JjO
theorem Jdq:AE J7Z:=by
 iterate 7 refine stp (λ_=>rfl) ?_ λ_=>by kernel_rfl
 exact JC5
abbrev J4w:=sigE 31 J8t J3a::J7Z
theorem J8x:AE J4w:=λp=>⟨JEk (t:=J5) rfl,Jdq p⟩
abbrev Jc6:=sigE 17 JjX J7j::J4w
theorem Jku:AE Jc6:=by
 iterate 1 refine stp (λ_=>rfl) ?_ λ_=>by kernel_rfl
 exact J8x
abbrev J4A:=sigE 28 J8W J0k::Jc6
theorem J8Z:AE J4A:=λp=>⟨JGr rfl,Jku p⟩
abbrev Jdp:=sigE 6 JeX J4k::sigE 19 Jwe J83::sigE 13 Jhq J46::sigE 12 Jjq J6D::sigE 26 J6U J1p::sigE 27 Jgt J6Z::J4A
theorem JeF:AE Jdp:=by
 iterate 6 refine stp (λ_=>rfl) ?_ λ_=>by kernel_rfl
 exact J8Z
end
end Go.Am
end
section
namespace Go.Proofs
open Go.Shelf Go.RowKit Go.Lib
set_option linter.unusedSimpArgs false
set_option linter.unusedVariables false
def Tryz.ρG:Ren where
 f:=fun
  |4=>44
  |n=>n
 t:=fun
  |25=>60
  |22=>26
  |n=>n
 g:=λn=>n
theorem Tryz.growE:Lays8.n4 Tryz.prog Tryz.ρG where
 mixed:=by kernel_rfl
 f4:=⟨"slices.Grow[[]pagemend/api.Entry,pagemend/api.Entry]",by decide,by kernel_rfl⟩
 t0:=Tryz.underlying0
 a0:=Tryz.isAgg0
 z0:=Tryz.sizeOf0
 v0:=Tryz.zeroValue0
 t3:=Tryz.underlying3
 a3:=Tryz.isAgg3
 z3:=Tryz.sizeOf3
 v3:=Tryz.zeroValue3
 t4:=Tryz.underlying4
 a4:=Tryz.isAgg4
 z4:=Tryz.sizeOf4
 v4:=Tryz.zeroValue4
 t9:=Tryz.underlying9
 a9:=Tryz.isAgg9
 z9:=Tryz.sizeOf9
 v9:=Tryz.zeroValue9
 t20:=Tryz.underlying20
 a20:=Tryz.isAgg20
 z20:=Tryz.sizeOf20
 v20:=Tryz.zeroValue20
 t22:=Tryz.underlying26
 a22:=Tryz.isAgg26
 z22:=Tryz.sizeOf26
 v22:=Tryz.zeroValue26
theorem Tryz.ent_size:(Tryz.prog.info? 60).map (·.size)=some 13:=by kernel_rfl
theorem Tryz.ent_bytes:(Tryz.prog.info? 60).map (·.bytes)=some 128:=by kernel_rfl
theorem Tryz.ent_cells:(Tryz.prog.info? 60).map (λi=>i.zero.map (·.cells.size))=some (some 13):=by kernel_rfl
theorem Jm9{B b:Nat}{w:World}(hb:B<=b): ∀(vs:List Value) (o:Nat) (W:World),Below B w W->Below B w (W.setCells b o vs)
 |[],_,_,h=>h
 |v::vs,o,W,h=>Jm9 hb vs (o+1) _ (Below.setCell h (p:=⟨b,o,none⟩) hb v)
abbrev Jne:=Am.CV 13
theorem Jpg{w W:World}{v:Value}{n:Nat}{cs:List Value}(h:Jne w v n cs)(hb:Below w.heap.size w W):Src Tryz.prog 13 26 v n cs W:=by
 obtain⟨⟨a,c,rfl,hs⟩,hl,h1⟩:=h;rcases hs with rfl|⟨r,o,rfl,hr,hc⟩
 ·have hn:n=0:=by simp at hl;omega
  subst hn;cases a with
  |none=>exact⟨.inl ⟨_,Tryz.underlying26⟩,λ_=>rfl,run_firstCells_none W 13 0 0 c,run_firstCells_none W.drew 13 0 0 c,rfl,h1⟩
  |some a=>exact⟨.inl ⟨_,Tryz.underlying26⟩,λ_=>rfl,run_firstCells_some W 13 0 a 0 c [] rfl (λj u h=>by simp at h),run_firstCells_some W.drew 13 0 a 0 c [] rfl (λj u h=>by simp at h),rfl,h1⟩
 ·exact Src.ofSlice W Tryz.underlying26 ⟨r,o,none⟩ n c cs hl (λj u hj=>by rw[Addr.add_lit,hb.cell hr];exact hc j u hj) h1
theorem JxX(b:Nat)(vs:List Value)(o:Nat)(w:World)(h: ∀j,j<vs.length->(w.cell? ⟨b,o+j,none⟩).isSome=true)(k:Nat)(hk:(w.cell? ⟨b,k,none⟩).isSome=true):((w.setCells b o vs).cell? ⟨b,k,none⟩).isSome=true:=by
 by_cases e:o<=k/\k<o+vs.length
 ·have:=World.cell?_setCells_in b vs o w h (k-o) (by omega);rw[show o+(k-o)=k by omega]at this;rw[this];rfl
 ·rw[World.cell?_setCells_out b _ _ _ _ (λ_ _=>by dsimp only;omega)];exact hk
structure JiB(B m:Nat)(l:List Value)(w W:World):Prop where
 below:Below B w W
 sp: ∀j,j<m->(W.cell? ⟨B,j,none⟩).isSome=true
 fz: ∀j,j<m->W.frozen? ⟨B,j,none⟩=false
 at_: ∀(j:Nat) u,l[j]?=some u->W.cell? ⟨B,j,none⟩=some u
theorem JiB.step{B m:Nat}{l cs:List Value}{w W:World}(h:JiB B m l w W)(hm:l.length+cs.length<=m):JiB B m (l++cs) w (W.setCells B l.length cs):=by
 have hs: ∀j,j<cs.length->(W.cell? ⟨B,l.length+j,none⟩).isSome=true:=λj hj=>h.sp _ (by omega);refine⟨Jm9 (Nat.le_refl _) _ _ _ h.below,λj hj=>JxX B _ _ _ hs j (h.sp j hj),λj hj=>?_,λj u hj=>?_⟩
 ·rw[World.frozen?_setCells];exact h.fz j hj
 ·by_cases hk:j<l.length
  ·rw[List.getElem?_append_left hk]at hj;rw[World.cell?_setCells_out B _ _ _ _ (λ_ _=>.inl hk)];exact h.at_ j u hj
  ·rw[List.getElem?_append_right (by omega)]at hj;have e:j-l.length<cs.length:=(List.getElem?_eq_some_iff.1 hj).1;have:=World.cell?_setCells_in B _ l.length W hs (j-l.length) e;rw[show l.length+(j-l.length)=j by omega]at this;rw[this,<-hj,List.getElem?_eq_getElem e]
theorem JC3(w:World)(c:Array Value)(t:TypeId)(m:Nat)(hm:m<=c.size):JiB w.heap.size m [] w (w.drew.alloc (.cells c t)):=by
 have e:(w.drew.alloc (.cells c t)).heap[w.heap.size]?=some (.cells c t):=Array.getElem?_push_size;refine⟨(Below.refl w.heap.size w).drew.alloc (Nat.le_refl _) _,λj hj=>?_,λj hj=>World.frozen?_alloc_new _ _ _ _,λj u h=>by simp at h⟩;have hz:j<c.size:=by omega
 rw[cell_of_heap e,Array.getElem?_eq_getElem hz];rfl
set_option maxHeartbeats 4000000 in
set_option maxRecDepth 100000 in
theorem Tryz.conc(r o S g k:Nat)(v0 v1:Value)(n x:List Value)(w:World)(J:w.cell? ⟨r,o,none⟩=some v0)(h1:w.cell? ⟨r,o+1,none⟩=some v1)
  (I:Jne w v0 g n) (q1:Jne w v1 k x) (hN:1<=g+k) (hb:g+k<=8192):
  Calls Tryz.prog 31 #[.slice (some ⟨r,o,none⟩) 2 S] w λe w'=> ∃G,e=.returned (.slice (some ⟨w.heap.size,0,none⟩) (g+k) G)/\g+k<=G/\JiB w.heap.size ((g+k)*13) (n++x) w w':=by
 have mixed:Tryz.prog.follows .mixedOrders=true:=by kernel_rfl
 have hr:r<w.heap.size:=block_lt_of_cell J;obtain⟨a0,T,rfl,s0⟩:=I.shape;obtain⟨a1,O,rfl,s1⟩:=q1.shape;have a2:Go.RowKit.wrap64 ((0:Int)+(g:Int))=(g:Int):=by unfold Go.RowKit.wrap64;omega
 have Y:Go.RowKit.wrap64 ((g:Int)+(k:Int))=((g+k:Nat):Int):=by unfold Go.RowKit.wrap64;omega
 have Z: ¬((g:Int)<0):=by omega
 have W: ¬(((g+k:Nat):Int)<0):=by omega
 go_enter Tryz.func31,Tryz.ntmps31
 go_wp2
 refine wp_loop_rounds 3 ?_;rw[rounds_succ]
 go_wp2
 rw[rounds_succ]
 go_wp2
 rw[rounds_succ];obtain⟨D,y,v⟩:=Option.map_eq_some_iff.1 Tryz.ent_size;have P:D.bytes=128:=by have:=Tryz.ent_bytes;rw[y]at this;simpa using this
 obtain⟨z,K,N⟩: ∃z,D.zero=some z/\z.cells.size=13:=by have:=Tryz.ent_cells;rw[y]at this;simp at this;exact this
 have H:=Any8.slices_Grow_grow Tryz.growE D z y K (by omega) none 0 0 (g+k) [] w (Nat.le_refl _) (by omega) (by rw[P];omega) (by omega) (by simp) (λ_=>rfl) (λa h=>by cases h)
 go_wp2_with (go_at_call 44;refine H.mono ?_)
 rintro e C ⟨rfl,M⟩;have U:=grownCap_ge w (0+(g+k)) 0 60;obtain⟨G,E⟩: ∃G,G=grownCap w (0+(g+k)) 0 60:=⟨_,rfl⟩;have B:grownCap w (0+(g+k)) 0 (Tryz.ρG.t 25)=G:=E.symm;rw[<-E]at U;have A:JiB w.heap.size ((g+k)*13) [] w C:=by
  rw[M];refine JC3 w _ _ _ ?_;simp[size_zeroCells,N]
  first|done|omega
 rw[B];clear M H E B;have k0:C.cell? ⟨r,o,none⟩=some (.slice a0 g T):=by rw[A.below.cell hr];exact J
 have k1:C.cell? ⟨r,o+1,none⟩=some (.slice a1 k O):=by rw[A.below.cell hr];exact h1
 clear J h1
 go_wp2
 refine wp_loop_rounds 3 ?_;rw[rounds_succ];have L:=Jpg I A.below;rw[<-v]at L;have V:=I.len;have L1:=q1.len
 go_wp2_with (at_builtin;refine wpList_append_room_src _ rfl _ _ 26 26 rfl 60 D Tryz.underlying26 y w.heap.size 0 0 G rfl _ rfl g n L (by omega) (by rw[v];intro j hj;exact A.sp _ (by omega)) (by rw[v];intro j hj;exact A.fz _ (by omega)) ?_)
 have q:JiB w.heap.size ((g+k)*13) n w (C.setCells w.heap.size 0 n):=A.step (l:=[]) (by simp;omega);generalize C.setCells w.heap.size 0 n=Q at q⊢;have k1:Q.cell? ⟨r,o+1,none⟩=some (.slice a1 k O):=by rw[q.below.cell hr,<-A.below.cell hr];exact k1
 have R:=Jpg q1 q.below;rw[<-v]at R;rw[rounds_succ]
 go_wp2_with (at_builtin;refine wpList_append_room_src _ rfl _ _ 26 26 rfl 60 D Tryz.underlying26 y w.heap.size 0 g G rfl _ rfl k x R (by omega) (by rw[v];intro j hj;exact q.sp _ (by omega)) (by rw[v];intro j hj;exact q.fz _ (by omega)) ?_)
 have F:JiB w.heap.size ((g+k)*13) (n++x) w (Q.setCells w.heap.size n.length x):=q.step (by omega);rw[rounds_succ]
 go_wp2
 go_ret
 refine⟨G,rfl,by omega,?_⟩;rw[V]at F;exact F
theorem Tryz.conc_nil{w:World}{v:Value}{cs:List Value}(h:Jne w v 0 cs)(ty:TypeId):(Builtin.append_ #[26,26] ty #[.slice none 0 0,v]).run Tryz.prog w=.ok (.slice none 0 0) w:=by
 obtain⟨g,e,j⟩:=Option.map_eq_some_iff.1 Tryz.ent_size;have k:g.bytes=128:=by have:=Tryz.ent_bytes;rw[e]at this;simpa using this
 obtain⟨z,n,o⟩: ∃z,g.zero=some z/\z.cells.size=13:=by have:=Tryz.ent_cells;rw[e]at this;simp at this;exact this
 exact(Am.Src.gen (P:=Tryz.prog) (esz:=13) (bytes:=128) (t:=26) (ut:=26) (ty:=ty) (el:=60) (by kernel_rfl) (by kernel_rfl) e j k n (Jpg h (Below.refl _ _))).nil rfl
set_option maxHeartbeats 4000000 in
set_option maxRecDepth 100000 in
theorem Tryz.conc0(r o n:Nat)(v0 v1:Value)(h k:List Value)(w:World)(v:w.cell? ⟨r,o,none⟩=some v0)(h1:w.cell? ⟨r,o+1,none⟩=some v1)
  (g:Jne w v0 0 h) (q1:Jne w v1 0 k):
  Calls Tryz.prog 31 #[.slice (some ⟨r,o,none⟩) 2 n] w λe w'=>e=.returned (.slice none 0 0)/\w'=w:=by
 have mixed:Tryz.prog.follows .mixedOrders=true:=by kernel_rfl
 have q:=λty=>Tryz.conc_nil g ty;have m1:=λty=>Tryz.conc_nil q1 ty;obtain⟨a0,x,rfl,s0⟩:=g.shape;obtain⟨a1,z,rfl,s1⟩:=q1.shape;have j:=Any8.slices_Grow_room Tryz.growE none 0 0 0 w (Nat.le_refl _) (by omega) (by omega) (by omega)
 go_enter Tryz.func31,Tryz.ntmps31
 go_wp2
 refine wp_loop_rounds 3 ?_;rw[rounds_succ]
 go_wp2
 rw[rounds_succ]
 go_wp2
 rw[rounds_succ]
 go_wp2_with (go_at_call 44;refine j.mono ?_)
 rintro e y ⟨rfl,rfl⟩
 go_wp2
 refine wp_loop_rounds 3 ?_;rw[rounds_succ]
 go_wp2_with (at_builtin;refine Lib.wpList_append_run _ rfl _ _ _ _ rfl _ _ rfl rfl _ _ (q _) ?_)
 rw[rounds_succ]
 go_wp2_with (at_builtin;refine Lib.wpList_append_run _ rfl _ _ _ _ rfl _ _ rfl rfl _ _ (m1 _) ?_)
 rw[rounds_succ]
 go_wp2
 go_ret
 exact⟨rfl,rfl⟩
theorem JkD(args:List Am.AV)(blks:List Am.Blk)(r:Am.Res)(h:Am.Jj2 13 args blks=some r):Am.J9g Tryz.prog 31 args blks r:=by
 refine Am.JHi (by decide) ⟨_,Tryz.func31,by decide,by decide⟩ (λr o y k q v0 v1 g j w x h1 v q1 hn=>?_) args blks r h;by_cases hz:k+q=0
 ·obtain rfl:k=0:=by omega
  obtain rfl:q=0:=by omega
  refine(Tryz.conc0 r o y v0 v1 g j w x h1 v q1).mono ?_;rintro e w' ⟨rfl,rfl⟩;exact⟨none,0,rfl,Nat.le_refl _,Below.refl _ _,.inl rfl⟩
 ·refine(Tryz.conc r o y k q v0 v1 g j w x h1 v q1 (by omega) hn).mono ?_;rintro e w' ⟨G,rfl,z,n⟩;refine⟨_,G,rfl,z,n.below,.inr ⟨rfl,?_,n.at_⟩⟩;have:=n.sp 0 (by omega);obtain⟨u,hu⟩:=Option.isSome_iff_exists.1 this;exact block_lt_of_cell hu
end Go.Proofs
end
