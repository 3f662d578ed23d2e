/- Parts of a proof. -/
import Derived.Shelf.Strings.Builder1
import Derived.Shelf.Lays
import Derived.Test.YtckgllmahldikaaGreatProg
import Derived.Lib.Agree
import Derived.KernelRfl
import Derived.WalkKit
import Derived.BigCall
import Derived.Test.YtckgllmahldikaaGreatM2
import Derived.Test.YtckgllmahldikaaGreatM3
import Derived.Test.YtckgllmahldikaaGreatM4
import Derived.Test.YtckgllmahldikaaGreatM6
set_option linter.unusedSimpArgs false
set_option linter.unusedVariables false
set_option linter.unusedSectionVars false
set_option maxRecDepth 20000
set_option maxHeartbeats 4000000
section
namespace Go.Am
noncomputable section
theorem DR{i g S l f}(hf: ∀p,tL p i=some (.fn (aM f)))(A:AE l)(q: ∀x,onO (iJ g x) (λy=>mJ (TG.of l) f y.1 y.2 (iP g))=S x):AE (cK i g S::l):=λp=>⟨sb (hf p) (A p) q,A p⟩
theorem Jnw(r x):onO (iJ g_draw_Codes_Next x) (λy=>mJ (TG.of (aF 25 g_draw_Codes_Next r::[])) na y.1 y.2 (iP g_draw_Codes_Next))=HA r x:=by kernel_rfl
abbrev Et:=aF 25 g_draw_Codes_Next Ji::[]
theorem JnC:AE Et:=λp=>⟨em (fn:=na) (l:=[]) rfl (ae0 p) rfl Jnw 100,ae0 p⟩
abbrev E3:=aF 218 Ev JQ::aF 151 Wp rG::aF 94 Jm8 yJ::aF 122 Bv CL::aF 84 zq sO::aF 74 Jnr pE::aF 125 ms GV::aF 93 Fh HI::aF 10 JFy uQ::aF 14 Jox gP::Et
theorem JkR:AE E3:=by
 iterate 10 refine dH (λ_=>rfl) ?_ λ_=>by kernel_rfl
 exact JnC
abbrev E1:=cK 115 sm HG::aF 153 HD JF::aF 113 HD oY::aF 152 Tf Sj::aF 183 XK CS::aF 182 HD mG::aF 179 HD iU::aF 180 XK xS::aF 181 XK uW::aF 217 ms CM::E3
theorem Jmi:AE E1:=by
 refine DR (λ_=>rfl) ?_ λ_=>by kernel_rfl
 iterate 9 refine dH (λ_=>rfl) ?_ λ_=>by kernel_rfl
 exact JkR
abbrev A9:=aF 92 sm iG::cK 117 Job HC::E1
theorem zx:AE A9:=by
 refine dH (λ_=>rfl) ?_ λ_=>by kernel_rfl
 refine DR (λ_=>rfl) ?_ λ_=>by kernel_rfl
 exact Jmi
abbrev Br:=aF 123 HD JO::aF 157 Ra rB::aF 195 XK lJ::aF 225 Ev JQ::aF 158 Wa lG::aF 31 JDR US::aF 79 Xm CJ::aF 24 Q4 VX::aF 9 Ur OB::aF 44 Jno dh::A9
theorem Te:AE Br:=by
 iterate 10 refine dH (λ_=>rfl) ?_ λ_=>by kernel_rfl
 exact zx
abbrev D6:=aF 111 Bv lK::aF 68 HD JF::aF 109 zj xP::aF 110 B3 qW::aF 150 yw BF::aF 108 Ba oU::aF 149 yb sC::aF 148 yg JE::aF 69 Uz eV::aF 70 A4 oT::Br
theorem Y1:AE D6:=by
 iterate 10 refine dH (λ_=>rfl) ?_ λ_=>by kernel_rfl
 exact Te
abbrev Eh:=aF 163 Di qY::aF 198 x7 JS::aF 42 JCl NQ::aF 33 Be BY::aF 88 Bd sE::aF 90 Pa VG::aF 60 Wh yB::aF 58 B1 nP::aF 107 sm fT::aF 134 Zy pF::D6
theorem X3:AE Eh:=by
 iterate 10 refine dH (λ_=>rfl) ?_ λ_=>by kernel_rfl
 exact Y1
abbrev B8:=aF 56 Rs OG::aF 106 Do OS::aF 91 Xr ZS::aF 136 Eo rI::aF 135 Bx xZ::aF 164 Xh JU::aF 165 By yE::aF 200 E5 CX::aF 199 Ff lL::aF 201 Fc CY::Eh
theorem Td:AE B8:=by
 iterate 10 refine dH (λ_=>rfl) ?_ λ_=>by kernel_rfl
 exact X3
abbrev Fj:=aF 139 Ji0 dq::aF 169 Jnn dg::aF 215 JkC PB::aF 133 Jng GZ::aF 13 Rx WB::aF 48 JkE dl::aF 12 Vk XJ::aF 19 zv GK::aF 16 za NS::aF 57 Uj WZ::B8
theorem JiG:AE Fj:=by
 iterate 10 refine dH (λ_=>rfl) ?_ λ_=>by kernel_rfl
 exact Td
abbrev Dw:=aF 214 Cc JB::aF 47 A4 xR::aF 46 Q0 sG::aF 137 JDj UV::aF 166 JCJ UT::aF 203 JD1 MR::aF 202 JDy MS::aF 204 JD2 JCG::aF 167 JCS UX::aF 205 Vp ZQ::Fj
theorem V6:AE Dw:=by
 iterate 10 refine dH (λ_=>rfl) ?_ λ_=>by kernel_rfl
 exact JiG
abbrev Cg:=aF 302 Uq mD::aF 345 JAz sL::aF 344 my BI::aF 343 S5 GO::aF 328 my vE::aF 260 Sq BW::aF 242 Al OH::aF 273 ze mC::aF 272 R0 jG::aF 317 Qy rA::Dw
theorem Q2:AE Cg:=by
 iterate 10 refine dH (λ_=>rfl) ?_ λ_=>by kernel_rfl
 exact V6
abbrev B7:=aF 228 Ap VZ::aF 236 Az JL::aF 259 Az CD::aF 304 Jlz vC::aF 303 Qm nI::aF 346 ms GD::aF 248 Se fB::aF 280 lc oX::aF 330 lc qZ::aF 331 lc rD::Cg
theorem Tk:AE B7:=by
 iterate 10 refine dH (λ_=>rfl) ?_ λ_=>by kernel_rfl
 exact Q2
abbrev An:=aF 295 Pw gG::aF 338 Wv sQ::aF 337 JCH qV::aF 336 V5 GT::aF 292 ze hI::aF 296 JCs sM::aF 339 JDi UU::aF 294 JDa gE::aF 293 Yl nQ::aF 206 Ag XF::B7
theorem O2:AE An:=by
 iterate 10 refine dH (λ_=>rfl) ?_ λ_=>by kernel_rfl
 exact Tk
abbrev Cn:=aF 254 Xv ZZ::aF 289 Qs OF::aF 290 V8 ZU::aF 335 Zf OR::aF 291 Ws WU::aF 255 JCL jH::aF 263 zm xQ::aF 246 JDG qU::aF 231 zp lH::aF 249 zp mB::An
theorem Vr:AE Cn:=by
 iterate 10 refine dH (λ_=>rfl) ?_ λ_=>by kernel_rfl
 exact O2
abbrev A3:=aF 284 P9 NT::aF 250 U3 GY::aF 282 As CE::aF 281 T0 rE::aF 230 Tw BQ::aF 247 Ui sI::aF 210 Ag dp::aF 233 Ap VH::aF 253 JHr UJ::aF 288 Qr OC::Cn
theorem JBa:AE A3:=by
 iterate 10 refine dH (λ_=>rfl) ?_ λ_=>by kernel_rfl
 exact Vr
abbrev Ea:=aF 252 Yy CH::aF 287 Rw VV::aF 334 JDC nG::aF 251 R3 WA::aF 286 mc nH::aF 283 Xj sP::aF 332 Uc uY::aF 366 Uf uZ::aF 285 Uw nK::aF 333 mc OV::A3
theorem Yz:AE Ea:=by
 iterate 10 refine dH (λ_=>rfl) ?_ λ_=>by kernel_rfl
 exact JBa
abbrev Cq:=aF 313 Sc xV::aF 270 JAr uS::aF 268 Zb nL::aF 269 Ds CF::aF 310 U6 yG::aF 354 zh VP::aF 353 P5 WG::aF 311 O8 BB::aF 209 lg XC::aF 232 Qk xX::Ea
theorem Rn:AE Cq:=by
 iterate 10 refine dH (λ_=>rfl) ?_ λ_=>by kernel_rfl
 exact Yz
abbrev Ay:=aF 238 Pd VK::aF 267 Wg OL::aF 239 yx kE::aF 271 JBS oZ::aF 315 Xf uV::aF 356 JGR AW::aF 314 JDg GH::aF 355 Vm WS::aF 316 JAc NO::aF 312 X0 cu::Cq
theorem O9:AE Ay:=by
 iterate 10 refine dH (λ_=>rfl) ?_ λ_=>by kernel_rfl
 exact Rn
abbrev Ch:=aF 352 Q3 CA::aF 266 Wd CN::aF 309 JDO BA::aF 264 S6 BZ::aF 307 JoW CW::aF 350 JDu MQ::aF 349 Wm ZT::aF 370 Ta VY::aF 262 JB5 VR::aF 306 yj VE::Ay
theorem Ss:AE Ch:=by
 iterate 10 refine dH (λ_=>rfl) ?_ λ_=>by kernel_rfl
 exact O9
abbrev Bq:=aF 237 lg rC::aF 261 JBF BM::aF 305 JBw BO::aF 347 Vj XH::aF 348 JC1 VL::aF 265 JAF BL::aF 308 JBu BD::aF 351 U0 WP::aF 371 P0 VM::aF 374 Ql ld::Ch
theorem Um:AE Bq:=by
 iterate 10 refine dH (λ_=>rfl) ?_ λ_=>by kernel_rfl
 exact Ss
abbrev cw:=aF 363 Zp ZN::aF 324 Zv da::aF 361 So OD::aF 244 Ys cn::aF 278 yl GI::aF 329 mc nH::aF 277 Z5 CG::aF 211 Cc uX::aF 213 JA7 VJ::Bq
theorem Cl:AE cw:=by
 iterate 9 refine dH (λ_=>rfl) ?_ λ_=>by kernel_rfl
 exact Um
theorem Wb(r x):onO (iJ g_ref09_closed x) (λy=>mJ (TG.of (aF 364 g_ref09_closed r::cw)) ml y.1 y.2 (iP g_ref09_closed))=GS r x:=by kernel_rfl
abbrev Dx:=aF 364 g_ref09_closed Bu::cw
theorem Vd:AE Dx:=λp=>⟨em (fn:=ml) (l:=cw) rfl (Cl p) rfl Wb 1100,Cl p⟩
abbrev Co:=aF 358 Ds WY::aF 319 yx CI::aF 325 Cv CO::aF 362 JCK VD::aF 327 zm UY::aF 365 zq XD::aF 321 Al NN::aF 322 Pr NZ::aF 360 Wy yC::aF 326 yl WJ::Dx
theorem Wu:AE Co:=by
 iterate 10 refine dH (λ_=>rfl) ?_ λ_=>by kernel_rfl
 exact Vd
abbrev Bo:=aF 279 JA8 qT::aF 243 xc UR::aF 276 lg CT::aF 275 Yu yD::aF 274 Cv AU::aF 318 Zk vB::aF 357 Xw GX::aF 323 JC0 NR::aF 320 Uk xU::aF 359 Yq ct::Co
theorem JAG:AE Bo:=by
 iterate 10 refine dH (λ_=>rfl) ?_ λ_=>by kernel_rfl
 exact Wu
abbrev Au:=aF 373 my BI::aF 299 O3 VN::aF 234 S3 WD::aF 257 Uo BR::aF 297 As VT::aF 298 To OE::aF 256 JCj VS::aF 208 sr du::aF 229 xc UH::aF 245 Qc VQ::Bo
theorem Qa:AE Au:=by
 iterate 10 refine dH (λ_=>rfl) ?_ λ_=>by kernel_rfl
 exact JAG
abbrev Bs:=aF 368 Qw vA::aF 340 Bc XE::aF 367 Vg ZY::aF 372 Wk ZV::aF 375 U9 XL::aF 378 JkK OZ::aF 377 Jiz sS::aF 376 Vt ZX::aF 342 R2 XG::aF 369 zh VI::Au
theorem Tj:AE Bs:=by
 iterate 10 refine dH (λ_=>rfl) ?_ λ_=>by kernel_rfl
 exact Qa
abbrev Fg:=aF 95 JjB dv::aF 138 JCx UZ::aF 168 sr dr::aF 207 Jii yK::aF 212 sr dw::aF 235 zu WF::aF 258 zu VU::aF 301 Rp WL::aF 300 Bc dd::aF 341 JAn WE::Bs
theorem Jj3:AE Fg:=by
 iterate 10 refine dH (λ_=>rfl) ?_ λ_=>by kernel_rfl
 exact Tj
abbrev Fa:=aF 83 JlJ CP::aF 50 JiY ds::aF 55 yj dx::aF 105 JhG sy::aF 32 Be OQ::aF 11 JGa UK::aF 45 Jkz dk::Fg
theorem Jm9:AE Fa:=by
 iterate 7 refine dH (λ_=>rfl) ?_ λ_=>by kernel_rfl
 exact Jj3
abbrev Ow:=aF 128 Jar Oy::Fa
theorem Jaz:AE Ow:=λp=>⟨Ny rfl,Jm9 p⟩
abbrev Ef:=aF 140 Di OU::aF 146 yb GJ::aF 178 Jll dj::aF 170 x7 AZ::aF 77 Eo de::aF 66 Bd cm::aF 85 Do CU::aF 127 J7H dz::cK 114 J7O tm::aF 129 JkH PE::Ow
theorem Zg:AE Ef:=by
 iterate 8 refine dH (λ_=>rfl) ?_ λ_=>by kernel_rfl
 refine DR (λ_=>rfl) ?_ λ_=>by kernel_rfl
 refine dH (λ_=>rfl) ?_ λ_=>by kernel_rfl
 exact Jaz
abbrev Eu:=aF 71 Jnq df::aF 98 Bx OK::aF 141 Y3 GU::aF 172 Jm5 vD::aF 171 Ou sv::aF 216 Ou tf::aF 142 By WW::aF 174 E5 PD::aF 175 Fc PA::aF 173 Ff nR::Ef
theorem Jnu:AE Eu:=by
 iterate 10 refine dH (λ_=>rfl) ?_ λ_=>by kernel_rfl
 exact Zg
abbrev d6:=cK 197 g_slices_swapRangeCmpFunc_archiver_named__0 J87::cK 227 g_slices_swapRangeCmpFunc_archiver_named__0 J7o::cK 161 J6B J6A::Eu
theorem Oz:AE d6:=by
 iterate 3 refine DR (λ_=>rfl) ?_ λ_=>by kernel_rfl
 exact Jnu
theorem J7w(r x):onO (iJ g_slices_swapRangeCmpFunc_archiver_named__0 x) (λy=>mJ (TG.of (cK 162 g_slices_swapRangeCmpFunc_archiver_named__0 r::d6)) th y.1 y.2 (iP g_slices_swapRangeCmpFunc_archiver_named__0))=O0 r x:=by kernel_rfl
abbrev O1:=cK 162 g_slices_swapRangeCmpFunc_archiver_named__0 J7I::d6
theorem J7C:AE O1:=λp=>⟨K2 (fn:=th) (l:=d6) rfl (Oz p) J7w 100,Oz p⟩
abbrev Ex:=aF 49 C6 OX::cK 96 J8q tj::aF 97 JiV sx::aF 99 Fh GG::aF 143 Jav HK::aF 35 C6 OP::cK 82 J4K tp::cK 126 J7R J8e::O1
theorem JnD:AE Ex:=by
 refine dH (λ_=>rfl) ?_ λ_=>by kernel_rfl
 refine DR (λ_=>rfl) ?_ λ_=>by kernel_rfl
 iterate 4 refine dH (λ_=>rfl) ?_ λ_=>by kernel_rfl
 iterate 2 refine DR (λ_=>rfl) ?_ λ_=>by kernel_rfl
 exact J7C
abbrev zb:=aF 145 yg fJ::Ex
theorem JDr:AE zb:=λp=>⟨JMm rfl,JnD p⟩
abbrev yz:=aF 102 zj xO::zb
theorem yd:AE yz:=by
 refine dH (λ_=>rfl) ?_ λ_=>by kernel_rfl
 exact JDr
abbrev Ca:=aF 101 Ba mE::yz
theorem Bn:AE Ca:=by
 refine dH (λ_=>rfl) ?_ λ_=>by kernel_rfl
 exact yd
abbrev Dc:=aF 103 B3 nO::aF 147 yw MN::Ca
theorem Cs:AE Dc:=by
 iterate 2 refine dH (λ_=>rfl) ?_ λ_=>by kernel_rfl
 exact Bn
noncomputable def zN:PS:=λf=>if f=51 then some (yM cS CC)else none
theorem Ru:tL zN 51=some (.prim (yM cS CC)):=rfl
def AD(l:List TE):Prop:=tM (AF (tL zN)) l
theorem G6{i g S l f}(hf:tL zN i=some (.fn (aM f)))(A:AD l)(q: ∀x,onO (iJ g x) (λy=>mJ (TG.of l) f y.1 y.2 (iP g))=S x)(hs:FF g=true:=by rfl):AD (aF i g S::l):=⟨qq hf A hs q,A⟩
theorem JQV{i g S l f}(hf:tL zN i=some (.fn (aM f)))(A:AD l)(q: ∀x,onO (iJ g x) (λy=>mJ (TG.of l) f y.1 y.2 (iP g))=S x):AD (cK i g S::l):=⟨sb hf A q,A⟩
abbrev Ce:=aF 51 B1 CC::Dc
theorem R4:AD Ce:=⟨JNM Ru,Cs zN⟩
abbrev Ox:=aF 53 Jbo Ov::Ce
theorem Jbm:AD Ox:=⟨Ny rfl,R4⟩
abbrev Jec:=aF 3 Jf0 dy::aF 17 Pp NV::aF 59 Jnm OY::aF 38 JBT NX::aF 18 zv mw::aF 15 za OW::aF 52 J85 d5::cK 96 J8p tk::aF 54 JkM PC::Ox
theorem JeM:AD Jec:=by
 iterate 7 refine G6 rfl ?_ λ_=>by kernel_rfl
 refine JQV rfl ?_ λ_=>by kernel_rfl
 refine G6 rfl ?_ λ_=>by kernel_rfl
 exact Jbm
end
end Go.Am
end
section
namespace Go.Proofs
open Go.Shelf Go.RowKit
def Tryz.ρA:Ren where
 f:=fun
  |99=>171
  |166=>100
  |169=>104
  |206=>216
  |240=>144
  |276=>176
  |167=>177
  |n=>n
 t:=fun
  |9=>9
  |3=>3
  |4=>4
  |20=>20
  |0=>0
  |46=>178
  |5=>5
  |72=>160
  |76=>163
  |51=>197
  |53=>245
  |70=>158
  |37=>22
  |75=>162
  |127=>202
  |164=>242
  |80=>167
  |n=>n
 g:=λn=>n
theorem Tryz.laysWS:Lays.n166 Tryz.prog Tryz.ρA where
 mixed:=by kernel_rfl
 f166:=by kernel_rfl
 f240:=by kernel_rfl
 f276:=by kernel_rfl
 t0:=Tryz.underlying0
 a0:=Tryz.isAgg0
 z0:=Tryz.sizeOf0
 v0:=Tryz.zeroValue0
 t3:=Tryz.underlying3
 a3:=Tryz.isAgg3
 z3:=Tryz.sizeOf3
 v3:=Tryz.zeroValue3
 t4:=Tryz.underlying4
 a4:=Tryz.isAgg4
 z4:=Tryz.sizeOf4
 v4:=Tryz.zeroValue4
 t9:=Tryz.underlying9
 a9:=Tryz.isAgg9
 z9:=Tryz.sizeOf9
 v9:=Tryz.zeroValue9
 t20:=Tryz.underlying20
 a20:=Tryz.isAgg20
 z20:=Tryz.sizeOf20
 v20:=Tryz.zeroValue20
 t37:=Tryz.underlying22
 a37:=Tryz.isAgg22
 z37:=Tryz.sizeOf22
 v37:=Tryz.zeroValue22
 t70:=Tryz.underlying158
 a70:=Tryz.isAgg158
 z70:=Tryz.sizeOf158
 v70:=Tryz.zeroValue158
 t72:=Tryz.underlying160
 a72:=Tryz.isAgg160
 z72:=Tryz.sizeOf160
 v72:=Tryz.zeroValue160
 t75:=Tryz.underlying162
 a75:=Tryz.isAgg162
 z75:=Tryz.sizeOf162
 v75:=Tryz.zeroValue162
 t164:=Tryz.underlying242
 a164:=Tryz.isAgg242
 z164:=Tryz.sizeOf242
 v164:=Tryz.zeroValue242
theorem Tryz.laysST:Lays.n169 Tryz.prog Tryz.ρA where
 mixed:=by kernel_rfl
 f169:=by kernel_rfl
 t0:=Tryz.underlying0
 a0:=Tryz.isAgg0
 z0:=Tryz.sizeOf0
 v0:=Tryz.zeroValue0
 t3:=Tryz.underlying3
 a3:=Tryz.isAgg3
 z3:=Tryz.sizeOf3
 v3:=Tryz.zeroValue3
 t9:=Tryz.underlying9
 a9:=Tryz.isAgg9
 z9:=Tryz.sizeOf9
 v9:=Tryz.zeroValue9
 t37:=Tryz.underlying22
 a37:=Tryz.isAgg22
 z37:=Tryz.sizeOf22
 v37:=Tryz.zeroValue22
 t70:=Tryz.underlying158
 a70:=Tryz.isAgg158
 z70:=Tryz.sizeOf158
 v70:=Tryz.zeroValue158
 t72:=Tryz.underlying160
 a72:=Tryz.isAgg160
 z72:=Tryz.sizeOf160
 v72:=Tryz.zeroValue160
 t127:=Tryz.underlying202
 a127:=Tryz.isAgg202
 z127:=Tryz.sizeOf202
 v127:=Tryz.zeroValue202
theorem Tryz.laysWB:Lays.n167 Tryz.prog Tryz.ρA where
 mixed:=by kernel_rfl
 f167:=by kernel_rfl
 f240:=by kernel_rfl
 f276:=by kernel_rfl
 t0:=Tryz.underlying0
 a0:=Tryz.isAgg0
 z0:=Tryz.sizeOf0
 v0:=Tryz.zeroValue0
 t4:=Tryz.underlying4
 a4:=Tryz.isAgg4
 z4:=Tryz.sizeOf4
 v4:=Tryz.zeroValue4
 t5:=Tryz.underlying5
 a5:=Tryz.isAgg5
 z5:=Tryz.sizeOf5
 v5:=Tryz.zeroValue5
 t9:=Tryz.underlying9
 a9:=Tryz.isAgg9
 z9:=Tryz.sizeOf9
 v9:=Tryz.zeroValue9
 t20:=Tryz.underlying20
 a20:=Tryz.isAgg20
 z20:=Tryz.sizeOf20
 v20:=Tryz.zeroValue20
 t37:=Tryz.underlying22
 a37:=Tryz.isAgg22
 z37:=Tryz.sizeOf22
 v37:=Tryz.zeroValue22
 t70:=Tryz.underlying158
 a70:=Tryz.isAgg158
 z70:=Tryz.sizeOf158
 v70:=Tryz.zeroValue158
 t72:=Tryz.underlying160
 a72:=Tryz.isAgg160
 z72:=Tryz.sizeOf160
 v72:=Tryz.zeroValue160
 t75:=Tryz.underlying162
 a75:=Tryz.isAgg162
 z75:=Tryz.sizeOf162
 v75:=Tryz.zeroValue162
 t164:=Tryz.underlying242
 a164:=Tryz.isAgg242
 z164:=Tryz.sizeOf242
 v164:=Tryz.zeroValue242
theorem Tryz.extraRep:Builder.Extra Tryz.prog Tryz.ρA where
 sizeBuilder:=by kernel_rfl
 liesBuilder:=by kernel_rfl
 t5:=Tryz.underlying5
 a5:=Tryz.isAgg5
 z5:=Tryz.sizeOf5
 v5:=Tryz.zeroValue5
 infoByte:=by kernel_rfl
 cellsByte:=by kernel_rfl
 sizeByte:=by kernel_rfl
 neB5:=by decide
theorem Tryz.WriteByte(B b:Nat)(g:List Value)(c:Int)(w:World)(h:Lib.IsBuilder 160 5 B b g w)(hlen:g.length+1<=140737488355328)(j:B<=w.heap.size):
  Calls Tryz.prog 177 #[.pointer (some ⟨b,0,none⟩),.int .u8 c] w λe w'=>e=.returned .nilIface/\(Lib.BuilderAt 160 5 B b (.pointer (some ⟨b,0,none⟩)) (g++[.int .u8 c]) w'/\Below B w w'):=Any.Builder_WriteByte Tryz.laysWB Tryz.extraRep B b g c w h hlen j
theorem Tryz.WriteString(B b:Nat)(g:List Value)(s:ByteArray)(w:World)(h:Lib.IsBuilder 160 5 B b g w)(hlen:g.length+s.size<=140737488355328)(j:B<=w.heap.size):
  Calls Tryz.prog 100 #[.pointer (some ⟨b,0,none⟩),.string s] w λe w'=>e=.returned (.tuple #[.int .i64 s.size,.nilIface])/\(Lib.BuilderAt 160 5 B b (.pointer (some ⟨b,0,none⟩)) (g++Lib.strCells s) w'/\Below B w w'):=Any.Builder_WriteString Tryz.laysWS Tryz.extraRep B b g s w h hlen j
theorem Tryz.String(B b:Nat)(l:List UInt8)(w:World)(h:Lib.IsBuilder 160 5 B b (Lib.byteCells l) w)(g:B<=w.heap.size):
  Calls Tryz.prog 104 #[.pointer (some ⟨b,0,none⟩)] w λe w'=>e=.returned (.string ⟨l.toArray⟩)/\Below B w w':=Any.Builder_String_any Tryz.laysST Tryz.extraRep B b l w h g
theorem We(l:List UInt8)(n:Int)(k:Nat):Lib.byteCells (l++Am.J59 n k)++[.int .u8 (Am.J9D n k)]=Lib.byteCells (l++Am.J59 n (k+1)):=by
 rw[Am.JJ8,<-List.append_assoc,Lib.byteCells_append (l++Am.J59 n k)]
 congr 1
 show [Value.int .u8 _]=[Value.int .u8 ((UInt8.ofNat (Am.J9D n k).toNat).toNat:Int)];rw[Am.JHp]
set_option maxHeartbeats 6400000 in
set_option maxRecDepth 100000 in
theorem Tryz.put(s:ByteArray)(n:Int)(k:Nat)(hk:1<=k)(B:k<=8)(hs:s.size+8<=140737488355328)(w:World):
  Calls Tryz.prog 145 #[.string s,.int .i64 n,.int .i64 k] w λe w'=>e=.returned (.string ⟨(s.data.toList++Am.J59 n k).toArray⟩)/\Below w.heap.size w w':=by
 have C:s.data.toList.length=s.size:=(Lib.size_eq s).symm;have r:Lib.IsBuilder 160 5 w.heap.size w.heap.size [] (w.alloc (.cells #[.pointer none,.slice none 0 0] 160)):=Lib.fresh_isBuilder 160 5 w;have g:Below w.heap.size w (w.alloc (.cells #[.pointer none,.slice none 0 0] 160)):=(Below.refl _ w).alloc (Nat.le_refl _) _
 go_enter Tryz.func145,Tryz.ntmps145
 go_wp2_with (go_at_call 100;refine(Tryz.WriteString w.heap.size w.heap.size [] s _ r (by simp;omega) g.size).mono ?_)
 rintro e x ⟨rfl,h1,b1⟩;have o:Lib.IsBuilder 160 5 w.heap.size w.heap.size (Lib.byteCells (s.data.toList++Am.J59 n 0)) x:=by rw[List.nil_append,Lib.strCells_eq]at h1;have v:Am.J59 n 0=[]:=rfl;rw[v,List.append_nil];exact Or.inr h1
 have q:=g.trans b1;clear h1 b1 r g
 go_wp2
 go_loopw [19] (λi wr=> ∃j:Nat,j<=k/\i=.int .i64 j/\Lib.IsBuilder 160 5 w.heap.size w.heap.size (Lib.byteCells (s.data.toList++Am.J59 n j)) wr/\Below w.heap.size w wr)
  (λi _=>k-(intOf i).toNat)
 case atStart=>exact⟨0,Nat.zero_le _,rfl,o,q⟩
 case round=>
  obtain⟨j,D,rfl,h,hb⟩:=hrel;by_cases A:j<k
  ·go_wp2_with (go_at_call 177;refine(Tryz.WriteByte w.heap.size w.heap.size _ _ _ h (by rw[Lib.byteCells_length,List.length_append,Am.JCX];omega) hb.size).mono ?_;rintro e y ⟨rfl,h2,b2⟩)
   have z:Am.J9D n j=IntKind.u64.wrap n/2^(8*j)%256:=by show((IntKind.wrap .u64 n).fdiv (2^(8*j)))%256=_;rw[Int.fdiv_eq_ediv_of_nonneg _ (Int.le_of_lt (Int.pow_pos (by decide)))]
   rw[<-z,We]at h2;exact⟨⟨j+1,by omega,by simp,Or.inr h2,hb.trans b2⟩,by simp[intOf];omega⟩
  ·obtain rfl:j=k:=by omega
   go_wp2_with (go_at_call 104;refine(Tryz.String w.heap.size w.heap.size _ _ h hb.size).mono ?_;rintro e y ⟨rfl,b2⟩)
   go_wp2
   go_ret
   exact⟨rfl,hb.trans b2⟩
theorem Tryz.put_out(s:ByteArray)(n k:Int)(hk:k<1\/8<k)(w:World):
  Calls Tryz.prog 145 #[.string s,.int .i64 n,.int .i64 k] w λe w'=>e=.returned (.string s)/\Below w.heap.size w w':=by
 go_enter Tryz.func145,Tryz.ntmps145
 go_wp2
 all_goals (go_ret;exact⟨rfl,Below.refl _ _⟩)
theorem JLH(l:List UInt8):(⟨l.toArray⟩:ByteArray).data.toList=l:=rfl
theorem JBf(args:List Am.AV)(blks:List Am.Blk)(r:Am.Res)(h:Am.JG1 args blks=some r):Am.J7b Tryz.prog 145 args blks r:=by unfold Am.JG1 at h;split at h;rename_i bl l n k;obtain⟨x,e,rfl⟩:=Option.map_eq_some_iff.1 h;unfold Am.Jo7 at e;split at e;rename_i hc;injection e with e;subst e;exact Am.JFo (xs:=[.s l,.i .i64 n,.i .i64 k]) (vs:=[.string ⟨l.toArray⟩,.int .i64 n,.int .i64 k]) (v:=.string ⟨l.toArray⟩) ⟨_,Tryz.func145,by decide,by decide⟩ rfl rfl λw=>Tryz.put_out _ n k hc w;rename_i hc;split at e;rename_i h2;injection e with e;subst e;refine Am.JFo (xs:=[.s l,.i .i64 n,.i .i64 k]) (vs:=[.string ⟨l.toArray⟩,.int .i64 n,.int .i64 k]) (v:=.string ⟨(l++Am.J59 n k.toNat).toArray⟩) ⟨_,Tryz.func145,by decide,by decide⟩ rfl rfl λw=>?_;have g:=Tryz.put ⟨l.toArray⟩ n k.toNat (by omega) (by omega) (by rw[Lib.size_eq];exact h2) w;rw[JLH,show((k.toNat:Nat):Int)=k by omega]at g;exact g;cases e;cases h
end Go.Proofs
end
