/-
  Parts of a proof.
-/
import Derived.Shelf.Strings.Builder1
import Derived.Shelf.Lays
import Derived.Test.YtckgllmahldikaaGreatProg
import Derived.Lib.Agree
import Derived.KernelRfl
import Derived.WalkKit
import Derived.BigCall
import Derived.Shelf.SlSortCmp.WholeK
import Derived.Shelf.SlLaysF0
import Derived.Test.YtckgllmahldikaaGreatChecked
import Derived.WalkSpells
import Derived.Tactics
import Derived.Tactics2
import Derived.Deep.RegionHeld3
import Derived.StillTactics
import Derived.Test.YtckgllmahldikaaGreatM2
import Derived.Test.YtckgllmahldikaaGreatM3
import Derived.Test.YtckgllmahldikaaGreatM4
import Derived.Test.YtckgllmahldikaaGreatM6
set_option linter.unusedSimpArgs false
set_option linter.unusedVariables false
set_option linter.unusedSectionVars false
set_option maxRecDepth 20000
set_option maxHeartbeats 4000000
section
namespace Go.Am
noncomputable section
theorem JSy{i g S l f}(hf: ∀p,vB p i=some (.fn (aN f)))(A:AE l)(q: ∀x,onO (gR g x) (λy=>lZ (TG.of l) f y.1 y.2 (iE g))=S x):AE (bN i g S::l):=λp=>⟨vc (hf p) (A p) q,A p⟩
abbrev Fx:=aH 32 Jp0 wZ::[]
theorem JoO:AE Fx:=by
 refine AM (λ_=>rfl) ?_ λ_=>by kernel_rfl
 exact ae0
abbrev Gi:=aH 61 JhA vo::Fx
theorem JhB:AE Gi:=λp=>⟨Ol rfl,JoO p⟩
abbrev Fv:=aH 182 AL mU::aH 179 AL jB::aH 180 ZA zT::aH 181 ZA wW::aH 217 ZC ER::aH 218 Fu JM::aH 151 Xb rY::aH 66 JpC FM::aH 65 AL Jg::aH 23 Vp KP::Gi
theorem Joh:AE Fv:=by
 iterate 10 refine AM (λ_=>rfl) ?_ λ_=>by kernel_rfl
 exact JhB
abbrev Fm:=aH 153 AL Jg::aH 122 nv KO::aH 84 Bn tZ::aH 74 Jng oH::aH 125 ZC rV::aH 62 Eg ef::aH 112 nj iZ::aH 113 AL kM::aH 152 T5 Rx::aH 183 ZA FH::Fv
theorem Yb:AE Fm:=by
 iterate 10 refine AM (λ_=>rfl) ?_ λ_=>by kernel_rfl
 exact Joh
abbrev Cn:=aH 92 Ft jQ::bN 117 JnZ KT::bN 115 Ft KX::Fm
theorem Bp:AE Cn:=by
 refine AM (λ_=>rfl) ?_ λ_=>by kernel_rfl
 iterate 2 refine JSy (λ_=>rfl) ?_ λ_=>by kernel_rfl
 exact Yb
abbrev Bc:=aH 145 Az fI::Cn
theorem JDj:AE Bc:=λp=>⟨JMN rfl,Bp p⟩
abbrev Bb:=aH 102 JCT zP::Bc
theorem Au:AE Bb:=by
 refine AM (λ_=>rfl) ?_ λ_=>by kernel_rfl
 exact JDj
abbrev Dk:=aH 101 Cb mR::aH 146 Aw KC::aH 178 Jlf e8::Bb
theorem C4:AE Dk:=by
 iterate 3 refine AM (λ_=>rfl) ?_ λ_=>by kernel_rfl
 exact Au
abbrev El:=aH 103 C7 oC::aH 147 A4 PK::Dk
theorem Du:AE El:=by
 iterate 2 refine AM (λ_=>rfl) ?_ λ_=>by kernel_rfl
 exact C4
noncomputable def BM:PS:=λf=>if f=51 then some (AU eD EK)else none
theorem Te:vB BM 51=some (.prim (AU eD EK)):=rfl
def AD(l:List TE):Prop:=vD (AF (vB BM)) l
theorem dZ{i g S l f}(hf:vB BM i=some (.fn (aN f)))(A:AD l)(q: ∀x,onO (gR g x) (λy=>lZ (TG.of l) f y.1 y.2 (iE g))=S x)(hs:IA g=true:=by rfl):AD (aH i g S::l):=⟨tp hf A hs q,A⟩
theorem BR{i g S l f}(hf:vB BM i=some (.fn (aN f)))(A:AD l)(q: ∀x,onO (gR g x) (λy=>lZ (TG.of l) f y.1 y.2 (iE g))=S x):AD (bN i g S::l):=⟨vc hf A q,A⟩
abbrev Ds:=aH 51 Uj EK::El
theorem S2:AD Ds:=⟨JOf Te,Du BM⟩
abbrev Pi:=bN 120 Jam RU::aH 119 nv AB::aH 116 AL YZ::Ds
theorem Jac:AD Pi:=by
 refine BR rfl ?_ λ_=>by kernel_rfl
 iterate 2 refine dZ rfl ?_ λ_=>by kernel_rfl
 exact S2
abbrev Pm:=bN 121 J9R RS::Pi
theorem J9S:AD Pm:=⟨JOz (t:=J3) (N:=J9w) rfl,Jac⟩
abbrev fi:=bN 219 g_slices_swapRangeCmpFunc_api_Entry__0 Jay::bN 240 g_slices_swapRangeCmpFunc_api_Entry__0 J9x::bN 184 J8a J8j::bN 117 Jo4 RK::aH 63 J7Q fq::bN 114 J8t fo::bN 115 Jle fb::Pm
theorem Pj:AD fi:=by
 iterate 4 refine BR rfl ?_ λ_=>by kernel_rfl
 refine dZ rfl ?_ λ_=>by kernel_rfl
 iterate 2 refine BR rfl ?_ λ_=>by kernel_rfl
 exact J9S
theorem J9T(r x):onO (gR g_slices_swapRangeCmpFunc_api_Entry__0 x) (λy=>lZ (TG.of (bN 185 g_slices_swapRangeCmpFunc_api_Entry__0 r::fi)) vw y.1 y.2 (iE g_slices_swapRangeCmpFunc_api_Entry__0))=Ph r x:=by kernel_rfl
abbrev Pk:=bN 185 g_slices_swapRangeCmpFunc_api_Entry__0 J9P::fi
theorem J9V:AD Pk:=⟨g7 (fn:=vw) (l:=fi) rfl (Pj) J9T 100,Pj⟩
abbrev Bq:=aH 67 JD0 XJ::bN 118 J75 vx::bN 154 JaM JaL::Pk
theorem JDH:AD Bq:=by
 refine dZ rfl ?_ λ_=>by kernel_rfl
 iterate 2 refine BR rfl ?_ λ_=>by kernel_rfl
 exact J9V
abbrev Pf:=aH 53 Jc0 vr::Bq
theorem JbX:AD Pf:=⟨Ol rfl,JDH⟩
abbrev eu:=aH 26 JpN eh::aH 63 J7S fj::bN 114 J8u fp::aH 64 Jmh e9::Pf
theorem Es:AD eu:=by
 iterate 2 refine dZ rfl ?_ λ_=>by kernel_rfl
 refine BR rfl ?_ λ_=>by kernel_rfl
 refine dZ rfl ?_ λ_=>by kernel_rfl
 exact JbX
theorem Jnj(r x):onO (gR g_draw_Codes_Next x) (λy=>lZ (TG.of (aH 25 g_draw_Codes_Next r::eu)) o9 y.1 y.2 (iE g_draw_Codes_Next))=KZ r x:=by kernel_rfl
abbrev Fs:=aH 25 g_draw_Codes_Next Jp::eu
theorem Jno:AD Fs:=⟨gn (fn:=o9) (l:=eu) rfl (Es) rfl Jnj 100,Es⟩
abbrev D3:=aH 142 Dc YV::aH 174 F8 RR::aH 175 F9 RO::aH 173 Gc oJ::aH 140 Eh RH::aH 170 Aj DP::aH 77 Jnp ew::aH 85 Joj RJ::aH 83 JlF FR::aH 10 JFl wG::Fs
theorem Wx:AD D3:=by
 iterate 10 refine dZ rfl ?_ λ_=>by kernel_rfl
 exact Jno
abbrev fk:=bN 197 g_slices_swapRangeCmpFunc_archiver_named__0 J8R::bN 227 g_slices_swapRangeCmpFunc_archiver_named__0 J7W::bN 161 J72 J71::aH 71 Jnf ey::aH 98 T7 XZ::aH 141 Za KU::aH 172 Jm5 xB::aH 171 Pg vk::aH 216 Pg vq::D3
theorem Pq:AD fk:=by
 iterate 3 refine BR rfl ?_ λ_=>by kernel_rfl
 iterate 6 refine dZ rfl ?_ λ_=>by kernel_rfl
 exact Wx
theorem J86(r x):onO (gR g_slices_swapRangeCmpFunc_archiver_named__0 x) (λy=>lZ (TG.of (bN 162 g_slices_swapRangeCmpFunc_archiver_named__0 r::fk)) vu y.1 y.2 (iE g_slices_swapRangeCmpFunc_archiver_named__0))=Pn r x:=by kernel_rfl
abbrev Pp:=bN 162 g_slices_swapRangeCmpFunc_archiver_named__0 J8o::fk
theorem J8g:AD Pp:=⟨g7 (fn:=vu) (l:=fk) rfl (Pq) J86 100,Pq⟩
abbrev Fg:=aH 39 Yj ei::aH 87 Jd8 vt::aH 131 ZC rV::aH 130 Dd Dq::aH 27 JCh PN::aH 60 Xp RB::aH 111 nv lU::aH 35 JpD RE::bN 82 J59 vz::bN 126 J8A J90::Pp
theorem Zc:AD Fg:=by
 iterate 8 refine dZ rfl ?_ λ_=>by kernel_rfl
 iterate 2 refine BR rfl ?_ λ_=>by kernel_rfl
 exact J8g
abbrev Eo:=aH 205 V8 ZD::aH 139 Ji4 fg::aH 169 Jnd fa::aH 215 JkD RP::aH 14 Joo iN::aH 133 Jn8 KY::aH 24 Sr YD::aH 28 JAd QB::aH 68 AL Jg::aH 22 Tx QZ::Fg
theorem Vv:AD Eo:=by
 iterate 10 refine dZ rfl ?_ λ_=>by kernel_rfl
 exact Zc
abbrev D6:=aH 157 Sz nW::aH 195 ZA hZ::aH 225 Fu JM::aH 158 Dd kN::aH 137 JD9 wH::aH 166 JCx zR::aH 203 JCQ DO::aH 202 JDq zQ::aH 204 JCR JCu::aH 167 JCH IY::Eo
theorem Tw:AD D6:=by
 iterate 10 refine dZ rfl ?_ λ_=>by kernel_rfl
 exact Vv
abbrev D5:=aH 242 Ca QW::aH 273 Be mL::aH 272 Tj jP::aH 317 Sj rO::aH 214 Do Ju::aH 47 nj tP::aH 46 Sm iM::aH 69 Eg JY::aH 70 nj iZ::aH 123 AL Jl::D6
theorem Tp:AD D5:=by
 iterate 10 refine dZ rfl ?_ λ_=>by kernel_rfl
 exact Tw
abbrev Dj:=aH 248 Rs JU::aH 280 nq pY::aH 330 nq rW::aH 331 nq rQ::aH 302 T1 mM::aH 345 JAA tM::aH 344 o5 DZ::aH 343 Ul KI::aH 328 o5 xA::aH 260 R0 uD::D5
theorem U0:AD Dj:=by
 iterate 10 refine dZ rfl ?_ λ_=>by kernel_rfl
 exact Tp
abbrev Bo:=aH 339 JD8 KE::aH 294 JD1 eM::aH 293 X5 gP::aH 206 Bz FG::aH 228 Ce EO::aH 236 Ck Jt::aH 259 Ck nV::aH 304 Jlu mY::aH 303 Rc iO::aH 346 ZC pU::Dj
theorem JCC:AD Bo:=by
 iterate 10 refine dZ rfl ?_ λ_=>by kernel_rfl
 exact U0
abbrev B1:=aH 263 Bj rN::aH 246 JDz mO::aH 231 Bk hX::aH 249 Bk iY::aH 295 Qx fJ::aH 338 Xg tX::aH 337 JCv rM::aH 336 Wm KM::aH 292 Be hV::aH 296 JCf kO::Bo
theorem Qe:AD B1:=by
 iterate 10 refine dZ rfl ?_ λ_=>by kernel_rfl
 exact JCC
abbrev B4:=aH 233 Ce DY::aH 253 JHo DH::aH 288 Rl wL::aH 254 Yr EW::aH 289 Rn pX::aH 290 Wo YS::aH 335 Zr RF::aH 291 Xd EQ::aH 148 Az Jz::aH 255 JCz gA::B1
theorem Qw:AD B4:=by
 iterate 10 refine dZ rfl ?_ λ_=>by kernel_rfl
 exact Qe
abbrev D9:=aH 285 Vi nZ::aH 333 ol RI::aH 284 Q0 QC::aH 250 Vr KQ::aH 282 Ch EM::aH 281 Uq rR::aH 149 Aw mP::aH 230 Vb uA::aH 247 Tu mT::aH 210 Bz FO::B4
theorem Su:AD D9:=by
 iterate 10 refine dZ rfl ?_ λ_=>by kernel_rfl
 exact Qw
abbrev Dn:=aH 209 ng FD::aH 232 Q9 rT::aH 252 Zm uG::aH 287 Tg EN::aH 334 JDu jO::aH 251 Tm YF::aH 286 ol oA::aH 283 Wv tT::aH 332 To wM::aH 366 Tr wO::D9
theorem U2:AD Dn:=by
 iterate 10 refine dZ rfl ?_ λ_=>by kernel_rfl
 exact Su
abbrev Cc:=aH 316 JAb PY::aH 312 Yf RG::aH 313 Tb AG::aH 270 JAr rS::aH 268 Zy oI::aH 269 E1 FK::aH 310 V9 zY::aH 354 Bh XQ::aH 353 Q8 XT::aH 311 P0 DU::Dn
theorem Rg:AD Cc:=by
 iterate 10 refine dZ rfl ?_ λ_=>by kernel_rfl
 exact U2
abbrev B8:=aH 262 JB0 XR::aH 306 JCP XN::aH 238 P2 XW::aH 267 V1 RC::aH 239 A9 gB::aH 271 JBI hW::aH 315 Yo wV::aH 356 JGK DJ::aH 314 JD6 wK::aH 355 V5 EP::Cc
theorem Qb:AD B8:=by
 iterate 10 refine dZ rfl ?_ λ_=>by kernel_rfl
 exact Rg
abbrev Dt:=aH 374 Ra na::aH 352 Sq FE::aH 266 Vy tV::aH 309 JDG tL::aH 264 Um FC::aH 307 JoJ FJ::aH 350 JDm PO::aH 349 Xv YR::aH 370 T3 YE::aH 198 Aj JI::B8
theorem Ut:AD Dt:=by
 iterate 10 refine dZ rfl ?_ λ_=>by kernel_rfl
 exact Qb
abbrev C1:=aH 213 JA6 EC::aH 237 ng mN::aH 261 JBu tQ::aH 305 JBm tR::aH 347 V4 wU::aH 348 JBQ wP::aH 265 JAE EE::aH 308 JBk DV::aH 351 Vm YM::aH 371 Qt XX::Dt
theorem Q1:AD C1:=by
 iterate 10 refine dZ rfl ?_ λ_=>by kernel_rfl
 exact Ut
abbrev ek:=aH 363 JpU d8::aH 324 Jp9 ej::aH 361 Rz QT::aH 244 Yd ed::aH 278 A7 KB::aH 329 ol oA::aH 277 Z2 FL::aH 211 Do wX::C1
theorem Dy:AD ek:=by
 iterate 8 refine dZ rfl ?_ λ_=>by kernel_rfl
 exact Q1
theorem Vw(r x):onO (gR g_ref09_closed x) (λy=>lZ (TG.of (aH 364 g_ref09_closed r::ek)) n0 y.1 y.2 (iE g_ref09_closed))=KL r x:=by kernel_rfl
abbrev E6:=aH 364 g_ref09_closed Da::ek
theorem Wf:AD E6:=⟨gn (fn:=n0) (l:=ek) rfl (Dy) rfl Vw 1100,Dy⟩
abbrev D0:=aH 358 E1 YX::aH 319 A9 tS::aH 325 D7 tW::aH 362 JCy DN::aH 327 Bj XI::aH 365 Bn YP::aH 321 Ca PW::aH 322 Ps PT::aH 360 X0 zW::aH 326 A7 YI::E6
theorem Xf:AD D0:=by
 iterate 10 refine dZ rfl ?_ λ_=>by kernel_rfl
 exact Wf
abbrev C5:=aH 279 JA7 mQ::aH 243 zl DL::aH 276 ng rX::aH 275 Zi wT::aH 274 D7 tJ::aH 318 Y5 wR::aH 357 Ys KN::aH 323 JBP QA::aH 320 Tv rP::aH 359 Ya eg::D0
theorem JAG:AD C5:=by
 iterate 10 refine dZ rfl ?_ λ_=>by kernel_rfl
 exact Xf
abbrev Dr:=aH 257 T0 nX::aH 297 Ch EH::aH 298 Ud uB::aH 110 C7 mV::aH 150 A4 tN::aH 108 Cb lV::aH 256 JC8 XS::aH 208 vm FS::aH 229 zl DC::aH 245 Q5 DW::C5
theorem Sd:AD Dr:=by
 iterate 10 refine dZ rfl ?_ λ_=>by kernel_rfl
 exact JAG
abbrev C9:=aH 342 Tl YA::aH 369 Bh XV::aH 373 o5 DZ::aH 299 Pu zU::aH 165 Dc tU::aH 200 F8 xC::aH 199 Gc JA::aH 201 F9 uI::aH 163 Eh jA::aH 234 Ui EX::Dr
theorem Rm:AD C9:=by
 iterate 10 refine dZ rfl ?_ λ_=>by kernel_rfl
 exact Sd
abbrev Fk:=aH 300 Cu FN::aH 341 JAq EI::aH 368 Rr lY::aH 340 Cu FF::aH 367 Wi EU::aH 372 Xt wY::aH 375 Wc ZB::aH 378 JkH RN::aH 377 JiC uK::aH 376 Ws ES::C9
theorem JpR:AD Fk:=by
 iterate 10 refine dZ rfl ?_ λ_=>by kernel_rfl
 exact Rm
abbrev A2:=aH 11 JG0 tI::aH 45 JkC FP::aH 95 JjD FT::aH 138 JCl DM::aH 168 vm FV::aH 207 Jim rZ::aH 212 vm FW::aH 235 Bt QV::aH 258 Bt zS::aH 301 Sf EZ::Fk
theorem JHr:AD A2:=by
 iterate 10 refine dZ rfl ?_ λ_=>by kernel_rfl
 exact JpR
abbrev Ji1:=aH 5 JjR ff::aH 20 JkI RL::A2
theorem JjF:AD Ji1:=by
 iterate 2 refine dZ rfl ?_ λ_=>by kernel_rfl
 exact JHr
end
end Go.Am
end
section
namespace Go.Proofs
open Go.Shelf Go.RowKit
def Tryz.ρA:Ren where
 f:=fun
  |99=>171
  |166=>100
  |169=>104
  |206=>216
  |240=>144
  |276=>176
  |167=>177
  |n=>n
 t:=fun
  |9=>9
  |3=>3
  |4=>4
  |20=>20
  |0=>0
  |46=>178
  |5=>5
  |72=>160
  |76=>163
  |51=>197
  |53=>245
  |70=>158
  |37=>22
  |75=>162
  |127=>202
  |164=>242
  |80=>167
  |n=>n
 g:=λn=>n
theorem Tryz.laysWS:Lays.n166 Tryz.prog Tryz.ρA where
 mixed:=by kernel_rfl
 f166:=by kernel_rfl
 f240:=by kernel_rfl
 f276:=by kernel_rfl
 t0:=Tryz.underlying0
 a0:=Tryz.isAgg0
 z0:=Tryz.sizeOf0
 v0:=Tryz.zeroValue0
 t3:=Tryz.underlying3
 a3:=Tryz.isAgg3
 z3:=Tryz.sizeOf3
 v3:=Tryz.zeroValue3
 t4:=Tryz.underlying4
 a4:=Tryz.isAgg4
 z4:=Tryz.sizeOf4
 v4:=Tryz.zeroValue4
 t9:=Tryz.underlying9
 a9:=Tryz.isAgg9
 z9:=Tryz.sizeOf9
 v9:=Tryz.zeroValue9
 t20:=Tryz.underlying20
 a20:=Tryz.isAgg20
 z20:=Tryz.sizeOf20
 v20:=Tryz.zeroValue20
 t37:=Tryz.underlying22
 a37:=Tryz.isAgg22
 z37:=Tryz.sizeOf22
 v37:=Tryz.zeroValue22
 t70:=Tryz.underlying158
 a70:=Tryz.isAgg158
 z70:=Tryz.sizeOf158
 v70:=Tryz.zeroValue158
 t72:=Tryz.underlying160
 a72:=Tryz.isAgg160
 z72:=Tryz.sizeOf160
 v72:=Tryz.zeroValue160
 t75:=Tryz.underlying162
 a75:=Tryz.isAgg162
 z75:=Tryz.sizeOf162
 v75:=Tryz.zeroValue162
 t164:=Tryz.underlying242
 a164:=Tryz.isAgg242
 z164:=Tryz.sizeOf242
 v164:=Tryz.zeroValue242
theorem Tryz.laysST:Lays.n169 Tryz.prog Tryz.ρA where
 mixed:=by kernel_rfl
 f169:=by kernel_rfl
 t0:=Tryz.underlying0
 a0:=Tryz.isAgg0
 z0:=Tryz.sizeOf0
 v0:=Tryz.zeroValue0
 t3:=Tryz.underlying3
 a3:=Tryz.isAgg3
 z3:=Tryz.sizeOf3
 v3:=Tryz.zeroValue3
 t9:=Tryz.underlying9
 a9:=Tryz.isAgg9
 z9:=Tryz.sizeOf9
 v9:=Tryz.zeroValue9
 t37:=Tryz.underlying22
 a37:=Tryz.isAgg22
 z37:=Tryz.sizeOf22
 v37:=Tryz.zeroValue22
 t70:=Tryz.underlying158
 a70:=Tryz.isAgg158
 z70:=Tryz.sizeOf158
 v70:=Tryz.zeroValue158
 t72:=Tryz.underlying160
 a72:=Tryz.isAgg160
 z72:=Tryz.sizeOf160
 v72:=Tryz.zeroValue160
 t127:=Tryz.underlying202
 a127:=Tryz.isAgg202
 z127:=Tryz.sizeOf202
 v127:=Tryz.zeroValue202
theorem Tryz.laysWB:Lays.n167 Tryz.prog Tryz.ρA where
 mixed:=by kernel_rfl
 f167:=by kernel_rfl
 f240:=by kernel_rfl
 f276:=by kernel_rfl
 t0:=Tryz.underlying0
 a0:=Tryz.isAgg0
 z0:=Tryz.sizeOf0
 v0:=Tryz.zeroValue0
 t4:=Tryz.underlying4
 a4:=Tryz.isAgg4
 z4:=Tryz.sizeOf4
 v4:=Tryz.zeroValue4
 t5:=Tryz.underlying5
 a5:=Tryz.isAgg5
 z5:=Tryz.sizeOf5
 v5:=Tryz.zeroValue5
 t9:=Tryz.underlying9
 a9:=Tryz.isAgg9
 z9:=Tryz.sizeOf9
 v9:=Tryz.zeroValue9
 t20:=Tryz.underlying20
 a20:=Tryz.isAgg20
 z20:=Tryz.sizeOf20
 v20:=Tryz.zeroValue20
 t37:=Tryz.underlying22
 a37:=Tryz.isAgg22
 z37:=Tryz.sizeOf22
 v37:=Tryz.zeroValue22
 t70:=Tryz.underlying158
 a70:=Tryz.isAgg158
 z70:=Tryz.sizeOf158
 v70:=Tryz.zeroValue158
 t72:=Tryz.underlying160
 a72:=Tryz.isAgg160
 z72:=Tryz.sizeOf160
 v72:=Tryz.zeroValue160
 t75:=Tryz.underlying162
 a75:=Tryz.isAgg162
 z75:=Tryz.sizeOf162
 v75:=Tryz.zeroValue162
 t164:=Tryz.underlying242
 a164:=Tryz.isAgg242
 z164:=Tryz.sizeOf242
 v164:=Tryz.zeroValue242
theorem Tryz.extraRep:Builder.Extra Tryz.prog Tryz.ρA where
 sizeBuilder:=by kernel_rfl
 liesBuilder:=by kernel_rfl
 t5:=Tryz.underlying5
 a5:=Tryz.isAgg5
 z5:=Tryz.sizeOf5
 v5:=Tryz.zeroValue5
 infoByte:=by kernel_rfl
 cellsByte:=by kernel_rfl
 sizeByte:=by kernel_rfl
 neB5:=by decide
theorem Tryz.WriteByte(B b:Nat)(bs:List Value)(c:Int)(w:World)(h:Lib.IsBuilder 160 5 B b bs w)(hlen:bs.length+1<=140737488355328)(g:B<=w.heap.size):
  Calls Tryz.prog 177 #[.pointer (some ⟨b,0,none⟩),.int .u8 c] w λe w'=>e=.returned .nilIface/\(Lib.BuilderAt 160 5 B b (.pointer (some ⟨b,0,none⟩)) (bs++[.int .u8 c]) w'/\Below B w w'):=
 Any.Builder_WriteByte Tryz.laysWB Tryz.extraRep B b bs c w h hlen g
theorem Tryz.WriteString(B b:Nat)(bs:List Value)(s:ByteArray)(w:World)(h:Lib.IsBuilder 160 5 B b bs w)(hlen:bs.length+s.size<=140737488355328)(g:B<=w.heap.size):
  Calls Tryz.prog 100 #[.pointer (some ⟨b,0,none⟩),.string s] w λe w'=>e=.returned (.tuple #[.int .i64 s.size,.nilIface])/\(Lib.BuilderAt 160 5 B b (.pointer (some ⟨b,0,none⟩)) (bs++Lib.strCells s) w'/\Below B w w'):=
 Any.Builder_WriteString Tryz.laysWS Tryz.extraRep B b bs s w h hlen g
theorem Tryz.String(B b:Nat)(l:List UInt8)(w:World)(h:Lib.IsBuilder 160 5 B b (Lib.byteCells l) w)(g:B<=w.heap.size):
  Calls Tryz.prog 104 #[.pointer (some ⟨b,0,none⟩)] w λe w'=>e=.returned (.string ⟨l.toArray⟩)/\Below B w w':=
 Any.Builder_String_any Tryz.laysST Tryz.extraRep B b l w h g
theorem Vz(l:List UInt8)(n:Int)(k:Nat):Lib.byteCells (l++Am.J0d n k)++[.int .u8 (Am.J6V n k)]=Lib.byteCells (l++Am.J0d n (k+1)):=by
 rw[Am.JuG,<-List.append_assoc,Lib.byteCells_append (l++Am.J0d n k)]
 congr 1
 show [Value.int .u8 _]=[Value.int .u8 ((UInt8.ofNat (Am.J6V n k).toNat).toNat:Int)];rw[Am.JqZ]
set_option maxHeartbeats 6400000 in
set_option maxRecDepth 100000 in
theorem Tryz.put(s:ByteArray)(n:Int)(k:Nat)(hk:1<=k)(B:k<=8)(hs:s.size+8<=140737488355328)(w:World):
  Calls Tryz.prog 145 #[.string s,.int .i64 n,.int .i64 k] w λe w'=>e=.returned (.string ⟨(s.data.toList++Am.J0d n k).toArray⟩)/\Below w.heap.size w w':=by
 have C:s.data.toList.length=s.size:=(Lib.size_eq s).symm;have r:Lib.IsBuilder 160 5 w.heap.size w.heap.size [] (w.alloc (.cells #[.pointer none,.slice none 0 0] 160)):=Lib.fresh_isBuilder 160 5 w;have g:Below w.heap.size w (w.alloc (.cells #[.pointer none,.slice none 0 0] 160)):=(Below.refl _ w).alloc (Nat.le_refl _) _
 go_enter Tryz.func145,Tryz.ntmps145
 go_wp2_with (go_at_call 100;refine(Tryz.WriteString w.heap.size w.heap.size [] s _ r (by simp;omega) g.size).mono ?_)
 rintro e v ⟨rfl,h1,b1⟩;have o:Lib.IsBuilder 160 5 w.heap.size w.heap.size (Lib.byteCells (s.data.toList++Am.J0d n 0)) v:=by rw[List.nil_append,Lib.strCells_eq]at h1;have y:Am.J0d n 0=[]:=rfl;rw[y,List.append_nil];exact Or.inr h1
 have q:=g.trans b1;clear h1 b1 r g
 go_wp2
 go_loopw [19] (λi wr=> ∃j:Nat,j<=k/\i=.int .i64 j/\Lib.IsBuilder 160 5 w.heap.size w.heap.size (Lib.byteCells (s.data.toList++Am.J0d n j)) wr/\Below w.heap.size w wr)
  (λi _=>k-(intOf i).toNat)
 case atStart=>exact⟨0,Nat.zero_le _,rfl,o,q⟩
 case round=>
  obtain⟨j,D,rfl,h,hb⟩:=hrel;by_cases A:j<k
  ·go_wp2_with (go_at_call 177;refine(Tryz.WriteByte w.heap.size w.heap.size _ _ _ h (by rw[Lib.byteCells_length,List.length_append,Am.JP];omega) hb.size).mono ?_;rintro e x ⟨rfl,h2,b2⟩)
   have z:Am.J6V n j=IntKind.u64.wrap n/2^(8*j)%256:=by show((IntKind.wrap .u64 n).fdiv (2^(8*j)))%256=_;rw[Int.fdiv_eq_ediv_of_nonneg _ (Int.le_of_lt (Int.pow_pos (by decide)))]
   rw[<-z,Vz]at h2;exact⟨⟨j+1,by omega,by simp,Or.inr h2,hb.trans b2⟩,by simp[intOf];omega⟩
  ·obtain rfl:j=k:=by omega
   go_wp2_with (go_at_call 104;refine(Tryz.String w.heap.size w.heap.size _ _ h hb.size).mono ?_;rintro e x ⟨rfl,b2⟩)
   go_wp2
   go_ret
   exact⟨rfl,hb.trans b2⟩
theorem Tryz.put_out(s:ByteArray)(n k:Int)(hk:k<1\/8<k)(w:World):
  Calls Tryz.prog 145 #[.string s,.int .i64 n,.int .i64 k] w λe w'=>e=.returned (.string s)/\Below w.heap.size w w':=by
 go_enter Tryz.func145,Tryz.ntmps145
 go_wp2
 all_goals (go_ret;exact⟨rfl,Below.refl _ _⟩)
theorem JM8(l:List UInt8):(⟨l.toArray⟩:ByteArray).data.toList=l:=rfl
theorem JB8(args:List Am.AV)(blks:List Am.Blk)(r:Am.Res)(h:Am.JFQ args blks=some r):Am.J6a Tryz.prog 145 args blks r:=by
 unfold Am.JFQ at h;split at h;rename_i bl l n k;obtain⟨x,e,rfl⟩:=Option.map_eq_some_iff.1 h;unfold Am.JnV at e;split at e;rename_i hc;injection e with e;subst e;exact Am.JFa (xs:=[.s l,.i .i64 n,.i .i64 k]) (vs:=[.string ⟨l.toArray⟩,.int .i64 n,.int .i64 k]) (v:=.string ⟨l.toArray⟩) ⟨_,Tryz.func145,by decide,by decide⟩ rfl rfl λw=>Tryz.put_out _ n k hc w;rename_i hc;split at e;rename_i h2;injection e with e;subst e;refine Am.JFa (xs:=[.s l,.i .i64 n,.i .i64 k]) (vs:=[.string ⟨l.toArray⟩,.int .i64 n,.int .i64 k]) (v:=.string ⟨(l++Am.J0d n k.toNat).toArray⟩) ⟨_,Tryz.func145,by decide,by decide⟩ rfl rfl λw=>?_;have g:=Tryz.put ⟨l.toArray⟩ n k.toNat (by omega) (by omega) (by rw[Lib.size_eq];exact h2) w;rw[JM8,show((k.toNat:Nat):Int)=k by omega]at g;exact g;cases e;cases h
end Go.Proofs
end
section
namespace Go.Proofs
open Go.Shelf Go.RowKit Go.Lib Go.Sort
def Tryz.ρS:Ren where
 f:=fun
  |6=>121
  |14=>155
  |15=>156
  |20=>184
  |21=>186
  |22=>187
  |23=>188
  |24=>189
  |25=>190
  |26=>191
  |27=>192
  |28=>193
  |29=>194
  |46=>220
  |47=>221
  |48=>222
  |49=>223
  |50=>224
  |57=>241
  |n=>n
 t:=fun
  |0=>0
  |3=>3
  |4=>4
  |5=>5
  |9=>9
  |22=>26
  |24=>64
  |25=>169
  |39=>178
  |45=>249
  |46=>250
  |50=>142
  |53=>197
  |55=>245
  |66=>275
  |70=>279
  |76=>305
  |77=>122
  |n=>n
 g:=λn=>n
set_option maxRecDepth 100000 in
theorem Tryz.laysSort:SlLaysF0.n6 Tryz.prog Tryz.ρS where
 mixed:=by kernel_rfl
 f6:=⟨"slices.SortFunc[[]pagemend/api.Entry,pagemend/api.Entry]",by decide,by kernel_rfl⟩
 f14:=⟨"slices.pdqsortCmpFunc[pagemend/api.Entry]",by decide,by kernel_rfl⟩
 f15:=by kernel_rfl
 f20:=⟨"slices.insertionSortCmpFunc[pagemend/api.Entry]",by decide,by kernel_rfl⟩
 f21:=⟨"slices.heapSortCmpFunc[pagemend/api.Entry]",by decide,by kernel_rfl⟩
 f22:=⟨"slices.breakPatternsCmpFunc[pagemend/api.Entry]",by decide,by kernel_rfl⟩
 f23:=⟨"slices.choosePivotCmpFunc[pagemend/api.Entry]",by decide,by kernel_rfl⟩
 f24:=⟨"slices.reverseRangeCmpFunc[pagemend/api.Entry]",by decide,by kernel_rfl⟩
 f25:=⟨"slices.partialInsertionSortCmpFunc[pagemend/api.Entry]",by decide,by kernel_rfl⟩
 f26:=⟨"slices.partitionEqualCmpFunc[pagemend/api.Entry]",by decide,by kernel_rfl⟩
 f27:=⟨"slices.partitionCmpFunc[pagemend/api.Entry]",by decide,by kernel_rfl⟩
 f28:=by kernel_rfl
 f29:=by kernel_rfl
 f46:=⟨"slices.siftDownCmpFunc[pagemend/api.Entry]",by decide,by kernel_rfl⟩
 f47:=by kernel_rfl
 f48:=by kernel_rfl
 f49:=⟨"slices.medianAdjacentCmpFunc[pagemend/api.Entry]",by decide,by kernel_rfl⟩
 f50:=⟨"slices.medianCmpFunc[pagemend/api.Entry]",by decide,by kernel_rfl⟩
 f57:=⟨"slices.order2CmpFunc[pagemend/api.Entry]",by decide,by kernel_rfl⟩
 t0:=Tryz.underlying0
 a0:=Tryz.isAgg0
 z0:=Tryz.sizeOf0
 v0:=Tryz.zeroValue0
 t3:=Tryz.underlying3
 a3:=Tryz.isAgg3
 z3:=Tryz.sizeOf3
 v3:=Tryz.zeroValue3
 t4:=Tryz.underlying4
 a4:=Tryz.isAgg4
 z4:=Tryz.sizeOf4
 v4:=Tryz.zeroValue4
 t5:=Tryz.underlying5
 a5:=Tryz.isAgg5
 z5:=Tryz.sizeOf5
 v5:=Tryz.zeroValue5
 t9:=Tryz.underlying9
 a9:=Tryz.isAgg9
 z9:=Tryz.sizeOf9
 v9:=Tryz.zeroValue9
 t22:=Tryz.underlying26
 a22:=Tryz.isAgg26
 z22:=Tryz.sizeOf26
 v22:=Tryz.zeroValue26
 t25:=Tryz.underlying169
 a25:=Tryz.isAgg169
 z25:=Tryz.sizeOf169
 v25:=Tryz.zeroValue169
 t39:=Tryz.underlying178
 a39:=Tryz.isAgg178
 z39:=Tryz.sizeOf178
 v39:=Tryz.zeroValue178
 t45:=Tryz.underlying249
 a45:=Tryz.isAgg249
 z45:=Tryz.sizeOf249
 v45:=Tryz.zeroValue249
 t46:=Tryz.underlying250
 a46:=Tryz.isAgg250
 z46:=Tryz.sizeOf250
 v46:=Tryz.zeroValue250
 t50:=Tryz.underlying142
 a50:=Tryz.isAgg142
 z50:=Tryz.sizeOf142
 v50:=Tryz.zeroValue142
 t53:=Tryz.underlying197
 a53:=Tryz.isAgg197
 z53:=Tryz.sizeOf197
 v53:=Tryz.zeroValue197
 t55:=Tryz.underlying245
 a55:=Tryz.isAgg245
 z55:=Tryz.sizeOf245
 v55:=Tryz.zeroValue245
 t66:=Tryz.underlying275
 a66:=Tryz.isAgg275
 z66:=Tryz.sizeOf275
 v66:=Tryz.zeroValue275
 t70:=Tryz.underlying279
 a70:=Tryz.isAgg279
 z70:=Tryz.sizeOf279
 v70:=Tryz.zeroValue279
 t76:=Tryz.underlying305
 a76:=Tryz.isAgg305
 z76:=Tryz.sizeOf305
 v76:=Tryz.zeroValue305
 t77:=Tryz.underlying122
 a77:=Tryz.isAgg122
 z77:=Tryz.sizeOf122
 v77:=Tryz.zeroValue122
set_option maxHeartbeats 1000000 in
theorem Tryz.nan(x:Int)(W:World):Calls Tryz.prog 125 #[.int .i64 x] W λe w'=>e=.returned (.bool false)/\w'=W:=by
 go_enter Tryz.func125,Tryz.ntmps125
 go_wp2
 all_goals (go_ret;exact⟨by simp,rfl⟩)
set_option maxHeartbeats 2000000 in
theorem Tryz.cmpInt(x y:Int)(W:World):Calls Tryz.prog 74 #[.int .i64 x,.int .i64 y] W λe w'=>e=.returned (.int .i64 (Lib.compareInt x y))/\w'=W:=by
 go_enter Tryz.func74,Tryz.ntmps74
 go_wp2_with (go_at_call 125;refine(Tryz.nan _ _).mono ?_;rintro e w' ⟨rfl,rfl⟩)
 all_goals (go_ret;refine⟨?_,rfl⟩;unfold Lib.compareInt;simp_all;try (rw[if_neg (by omega),if_neg (by omega)]))
set_option maxHeartbeats 2000000 in
theorem Tryz.cmpOr(r o cap:Nat)(x y v:Int)(hv:(if x=0 then y else x)=v)(W:World)(h0:W.cell? ⟨r,o,none⟩=some (.int .i64 x))(h1:W.cell? ⟨r,o+1,none⟩=some (.int .i64 y)):
  Calls Tryz.prog 84 #[.slice (some ⟨r,o,none⟩) 2 cap] W λe w'=>e=.returned (.int .i64 v)/\w'=W:=by
 subst hv
 go_enter Tryz.func84,Tryz.ntmps84
 go_wp2
 by_cases g:x=0
 ·subst g;by_cases h:y=0
  ·subst h;refine wp_loop_rounds 3 ?_;rw[rounds_succ]
   go_wp2
   rw[rounds_succ]
   go_wp2
   rw[rounds_succ]
   go_wp2
   go_ret
   exact⟨rfl,rfl⟩
  ·refine wp_loop_rounds 2 ?_;rw[rounds_succ]
   go_wp2
   rw[rounds_succ]
   go_wp2
   go_ret
   exact⟨rfl,rfl⟩
 ·refine wp_loop_rounds 1 ?_;rw[rounds_succ]
  go_wp2
  go_ret
  exact⟨by simp[g],rfl⟩
def CSt(W:World)(x0 g y0 e:Int)(w':World):Prop:=w'.cell? ⟨W.heap.size,0,none⟩=some (.int .i64 x0)/\w'.cell? ⟨W.heap.size,6,none⟩=some (.int .i64 g)/\w'.cell? ⟨W.heap.size+1,0,none⟩=some (.int .i64 y0)/\w'.cell? ⟨W.heap.size+1,6,none⟩=some (.int .i64 e)/\ ∃n os,w'=grow (W.drewN n) os
theorem XA{w:World}{a:Addr}{v:Value}(h:w.cell? a=some v)(o:Obj):(w.alloc o).cell? a=some v:=by rw[<-h];exact World.cell?_of_block (Below.heap_alloc w o a.block (block_lt_of_cell h))
theorem CSt.alloc{W w:World}{x0 g y0 e:Int}(h:CSt W x0 g y0 e w)(o:Obj):CSt W x0 g y0 e (w.alloc o):=by obtain⟨h1,h2,q,j,n,os,k⟩:=h;exact⟨XA h1 o,XA h2 o,XA q o,XA j o,n,_,by rw[alloc_eq_grow,k,grow_grow]⟩
set_option maxRecDepth 100000 in
set_option maxHeartbeats 4000000 in
theorem Tryz.closS(x y:Am.ET)(W:World):Calls Tryz.prog 122 #[.agg (Am.enT x).toArray,.agg (Am.enT y).toArray] W λe w'=>e=.returned (.int .i64 (Am.JjG x y))/\ ∃q J,w'=grow (W.drewN q) J:=by
 obtain⟨x0,X,x2,x3,x4,Q,⟨k,I,⟨R,O⟩,E,w⟩,C⟩:=x;obtain⟨r,H,S,K,P,M,⟨j,G,⟨L,N⟩,z,F⟩,D⟩:=y;unfold Am.JjG Am.enT;dsimp only;generalize hv:(if Lib.compareInt k j=0 then Lib.compareInt x0 r else Lib.compareInt k j)=v
 go_enter Tryz.func122,Tryz.ntmps122
 go_wp2
 have U: ∀o,o<13-> ∀(A B:Obj),((W.alloc A).alloc B).cell? ⟨W.heap.size,o,none⟩=(W.alloc A).cell? ⟨W.heap.size,o,none⟩:=λo _ A B=>World.cell?_of_block (Below.heap_alloc _ _ _ (by simp));obtain⟨h,g⟩: ∃h,h=(W.alloc (.cells #[.int .i64 x0,.int .i64 X,.int .i64 x2,.int .i64 x3,.int .i64 x4,.int .i64 Q,.int .i64 k,.int .i64 I,.bool R,.string ⟨O.toArray⟩,.bool E,.string ⟨w.toArray⟩,.string ⟨C.toArray⟩] 64)).alloc (.cells #[.int .i64 r,.int .i64 H,.int .i64 S,.int .i64 K,.int .i64 P,.int .i64 M,.int .i64 j,.int .i64 G,.bool L,.string ⟨N.toArray⟩,.bool z,.string ⟨F.toArray⟩,.string ⟨D.toArray⟩] 64):=⟨_,rfl⟩;have c0:h.cell? ⟨W.heap.size,0,none⟩=some (.int .i64 x0):=by rw[g];simp
 have c6:h.cell? ⟨W.heap.size,6,none⟩=some (.int .i64 k):=by rw[g];simp
 have Y:h.cell? ⟨W.heap.size+1,0,none⟩=some (.int .i64 r):=by rw[g];simp
 have V:h.cell? ⟨W.heap.size+1,6,none⟩=some (.int .i64 j):=by rw[g];simp
 have T:h=grow W #[(.cells #[.int .i64 x0,.int .i64 X,.int .i64 x2,.int .i64 x3,.int .i64 x4,.int .i64 Q,.int .i64 k,.int .i64 I,.bool R,.string ⟨O.toArray⟩,.bool E,.string ⟨w.toArray⟩,.string ⟨C.toArray⟩] 64),(.cells #[.int .i64 r,.int .i64 H,.int .i64 S,.int .i64 K,.int .i64 P,.int .i64 M,.int .i64 j,.int .i64 G,.bool L,.string ⟨N.toArray⟩,.bool z,.string ⟨F.toArray⟩,.string ⟨D.toArray⟩] 64)]:=by rw[g,alloc_eq_grow,alloc_eq_grow,grow_grow];rfl
 rw[<-g];clear g U;have Z:CSt W x0 k r j h.drew:=⟨c0,c6,Y,V,1,_,by rw[T];rfl⟩;clear T
 go_region_held3 (λw':World=>w'.cell? ⟨W.heap.size,0,none⟩=some (.int .i64 x0)/\w'.cell? ⟨W.heap.size,6,none⟩=some (.int .i64 k)/\w'.cell? ⟨W.heap.size+1,0,none⟩=some (.int .i64 r)/\w'.cell? ⟨W.heap.size+1,6,none⟩=some (.int .i64 j)/\ ∃n os,w'=grow (W.drewN n) os)
  (first|assumption|exact Z|exact CSt.alloc (by assumption) _)
  (first
   |(go_at_call 74;refine(Tryz.cmpInt _ _ _).mono ?_;rintro e w' ⟨rfl,rfl⟩)
   |(go_at_call 84;refine(Tryz.cmpOr _ _ _ (Lib.compareInt k j) (Lib.compareInt x0 r) v hv _ (by simp) (by simp)).mono ?_;rintro e w' ⟨rfl,rfl⟩))
 all_goals
  rename_i hh;obtain⟨_,_,_,_,n,os,hw⟩:=hh
  go_wp2
  go_ret
  exact⟨rfl,n,os,hw⟩
theorem Tryz.ltS{x y:Am.ET}(hx:Am.J9w x=true)(hy:Am.J9w y=true):ltOf Am.JjG x y=decide (Am.J89 x<Am.J89 y):=by
 unfold Am.J9w at hx hy;unfold ltOf Am.JjG Am.J89 Lib.compareInt;grind
theorem Tryz.swoS:SWO (ltOf Am.JjG) where
 irrefl x:=by unfold ltOf Am.JjG Lib.compareInt;grind
 trans x y z h1 h2:=by unfold ltOf Am.JjG Lib.compareInt at*;grind
 ntrans x y z h1 h2:=by unfold ltOf Am.JjG Lib.compareInt at*;grind
set_option maxHeartbeats 2000000 in
theorem Tryz.ins0(a:Option Addr)(cap:Nat)(g:Value)(w:World):Calls Tryz.prog 184 #[.slice a 0 cap,.int .i64 0,.int .i64 0,g] w λe w'=>e=.returned (.tuple #[])/\w'=w:=by
 go_enter Tryz.func184,Tryz.ntmps184
 go_wp2
 refine wp_loop_rounds 1 ?_;rw[rounds_succ]
 go_wp2
 go_end0
 exact⟨rfl,rfl⟩
set_option maxHeartbeats 2000000 in
theorem Tryz.pdq0(a:Option Addr)(cap:Nat)(g:Int)(h:Value)(w:World):Calls Tryz.prog 155 #[.slice a 0 cap,.int .i64 0,.int .i64 0,.int .i64 g,h] w λe w'=>e=.returned (.tuple #[])/\w'=w:=by
 go_enter Tryz.func155,Tryz.ntmps155
 go_wp2
 refine wp_loop_rounds 1 ?_;rw[rounds_succ]
 go_wp2_with (go_at_call 184;refine(Tryz.ins0 _ _ _ _).mono ?_;rintro e w' ⟨rfl,rfl⟩)
 (try simp only[Exit.inBlock,Exit.then]);refine bodyPost_ret (results_none rfl _ _ _) rfl ?_
 exact⟨rfl,rfl⟩
set_option maxHeartbeats 2000000 in
theorem Tryz.sort0(a:Option Addr)(cap:Nat)(g:Value)(w:World):Calls Tryz.prog 121 #[.slice a 0 cap,g] w λe w'=>e=.returned (.tuple #[])/\w'=w:=by
 have hl:=Any.bits_Len (SlLaysF0.n15.bits (P:=Tryz.prog) (ρ:=Tryz.ρS) {Tryz.laysSort with}) 0 w (by omega) (by omega);change Calls Tryz.prog 156 _ _ _ at hl
 go_enter Tryz.func121,Tryz.ntmps121
 go_wp2_with (first|(go_at_call 156;refine hl.mono ?_;rintro e w' ⟨rfl,rfl⟩)|(go_at_call 155;refine(Tryz.pdq0 _ _ _ _ _).mono ?_;rintro e w' ⟨rfl,rfl⟩))
 go_end0
 exact⟨rfl,rfl⟩
theorem J9q(args:List Am.AV)(blks:List Am.Blk)(r:Am.Res)(h:Am.JmR 13 122 (Am.JhC Am.J3 Am.J9w) (Am.cel Am.J3) Am.J89 args blks=some r):Am.J6a Tryz.prog 121 args blks r:=by
 have C: ∀args w,(callFunc 122 args).run Tryz.prog w=.ok (.enter 122 args) w:=enters_of Tryz.func122 (by kernel_rfl) rfl;refine Am.JKa (α:=Am.ET) (enc:=Am.enT) (N:=λx=>Am.J9w x=true) ⟨_,Tryz.func121,by decide,by decide⟩ (by decide) (λrow x h=>(Am.JuB h).1) (λrow x h=>(Am.JuB h).2) (λx=>rfl) (λx=>rfl)
  (λa cap w=>Tryz.sort0 a cap _ w)
  (λblk cap d w E D hb hs=>?_) args blks r h
 refine(AnyQ.slices_SortFunc Tryz.laysSort 13 Tryz.isAgg64 Tryz.sizeOf64 Am.enT (λ_=>rfl) (λx v B=>by simp[Am.enT]at B;rcases B with rfl|rfl|rfl|rfl|rfl|rfl|rfl|rfl|rfl|rfl|rfl|rfl|rfl<;>rfl) Am.JjG Tryz.swoS 122 #[] blk 0 cap d w C (λ_ _ _ _ x y=>Tryz.closS x y _) D hb hs).mono ?_;rintro e w' ⟨h1,g,n,os,hp,k,G⟩;refine⟨h1,g,n,os,hp,?_,G⟩;have A: ∀i,i<d.size->Am.J9w g[i]! =true:=λi hi=>by
  have hs:=hp.1;have h2:g[i]! ∈(g.extract 0 d.size).toList:=by rw[show d.size=g.size from hs.symm,Array.extract_size,getElem!_pos g i (by omega)];exact Array.mem_toList_iff.2 (Array.getElem_mem _)
  have z:=hp.2.2.mem_iff.1 h2;rw[Array.extract_size]at z;exact E _ (Array.mem_toList_iff.1 z)
 intro i j F H o;have q:=k i j F H o;rw[Tryz.ltS (A j o) (A i (by omega))]at q;exact q
end Go.Proofs
end
