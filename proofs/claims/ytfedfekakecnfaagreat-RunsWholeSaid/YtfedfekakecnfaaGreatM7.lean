/-
  Parts of a proof.
-/
import Derived.Shelf.Strings.Builder1
import Derived.Shelf.Lays
import Derived.Test.YtfedfekakecnfaaGreatChecked
import Derived.Lib.Agree
import Derived.KernelRfl
import Derived.WalkKit
import Derived.BigCall
import Derived.Shelf.SlSortCmp.WholeK
import Derived.Shelf.SlLaysF0
import Derived.WalkSpells
import Derived.Tactics
import Derived.Tactics2
import Derived.Deep.RegionHeld3
import Derived.StillTactics
import Derived.Test.YtfedfekakecnfaaGreatM2
import Derived.Test.YtfedfekakecnfaaGreatM3
import Derived.Test.YtfedfekakecnfaaGreatM4
import Derived.Test.YtfedfekakecnfaaGreatM6
set_option linter.unusedSimpArgs false
set_option linter.unusedVariables false
section
namespace Go.Am
set_option maxRecDepth 20000
set_option maxHeartbeats 4000000
noncomputable section
theorem JOB{i g S l f}(hf: ∀p,tI p i=some (.fn (aL f)))(A:AE l)(q: ∀x,onO (hM g x) (λy=>lW (TG.of l) f y.1 y.2 (iQ g))=S x):AE (bY i g S::l):=λp=>⟨YV (hf p) (A p) q,A p⟩
theorem Yf(r x):onO (hM g_draw_Codes_Next x) (λy=>lW (TG.of (aE 21 g_draw_Codes_Next r::[])) n8 y.1 y.2 (iQ g_draw_Codes_Next))=HL r x:=by kernel_rfl
abbrev zv:=aE 21 g_draw_Codes_Next Jj::[]
theorem Yb:AE zv:=λp=>⟨ZR (fn:=n8) (l:=[]) rfl (ae0 p) rfl Yf 100,ae0 p⟩
abbrev xo:=aE 89 Rl Od::aE 109 Xj CO::aE 108 Xn lS::aE 105 Xl iI::aE 106 Ix xT::aE 107 Sq uT::aE 126 Sx CC::aE 127 Yx CQ::aE 88 Tn pY::aE 10 JCK rU::zv
theorem Nn:AE xo:=by
 iterate 10 refine DA (λ_=>rfl) ?_ λ_=>by kernel_rfl
 exact Yb
abbrev wv:=aE 19 Mf iE::bY 53 Xk HI::bY 51 Yt HM::aE 90 Uv xW::aE 30 Ua HB::aE 65 Lq BM::aE 59 Xx sR::aE 93 Wq HJ::aE 52 Np oG::xo
theorem vh:AE wv:=by
 refine DA (λ_=>rfl) ?_ λ_=>by kernel_rfl
 iterate 2 refine JOB (λ_=>rfl) ?_ λ_=>by kernel_rfl
 iterate 6 refine DA (λ_=>rfl) ?_ λ_=>by kernel_rfl
 exact Nn
abbrev vg:=aE 72 JAG fJ::wv
theorem JAP:AE vg:=λp=>⟨JJH rfl,vh p⟩
abbrev vf:=aE 39 JAl xK::vg
theorem ua:AE vf:=by
 refine DA (λ_=>rfl) ?_ λ_=>by kernel_rfl
 exact JAP
abbrev xj:=aE 38 Pc mL::aE 73 JAS TX::aE 103 Yy XZ::vf
theorem xd:AE xj:=by
 iterate 3 refine DA (λ_=>rfl) ?_ λ_=>by kernel_rfl
 exact ua
abbrev ym:=aE 40 Ss uV::aE 74 JAv ie::xj
theorem x6:AE ym:=by
 iterate 2 refine DA (λ_=>rfl) ?_ λ_=>by kernel_rfl
 exact xd
noncomputable def zE:PS:=λf=>if f=13 then some (yC eS GS)else none
theorem Og:tI zE 13=some (.prim (yC eS GS)):=rfl
def AD(l:List TE):Prop:=tK (AF (tI zE)) l
theorem eY{i g S l f}(hf:tI zE i=some (.fn (aL f)))(A:AD l)(q: ∀x,onO (hM g x) (λy=>lW (TG.of l) f y.1 y.2 (iQ g))=S x)(hs:FN g=true:=by rfl):AD (aE i g S::l):=⟨nh hf A hs q,A⟩
theorem PQ{i g S l f}(hf:tI zE i=some (.fn (aL f)))(A:AD l)(q: ∀x,onO (hM g x) (λy=>lW (TG.of l) f y.1 y.2 (iQ g))=S x):AD (bY i g S::l):=⟨YV hf A q,A⟩
abbrev xn:=aE 13 O0 GS::ym
theorem Nh:AD xn:=⟨JKT Og,x6 zE⟩
abbrev vp:=aE 135 JAX xL::aE 137 JAj Hu::aE 123 JA9 GJ::aE 138 Sh XD::aE 100 Zr YF::aE 125 X1 YB::aE 148 Y5 OK::aE 35 Xt hA::aE 70 X7 HK::aE 9 Pd NX::xn
theorem JAe:AD vp:=by
 iterate 10 refine eY rfl ?_ λ_=>by kernel_rfl
 exact Nh
abbrev x9:=aE 67 Rr dQ::aE 68 Mx lM::aE 63 Qj Js::aE 96 Nf mJ::aE 121 Qr iH::aE 134 Ya fS::aE 97 S7 jV::aE 98 JAE uN::aE 122 Hr xM::aE 136 JAi AS::vp
theorem Qi:AD x9:=by
 iterate 10 refine eY rfl ?_ λ_=>by kernel_rfl
 exact JAe
abbrev xi:=aE 264 O3 GU::aE 249 Xu vF::aE 181 Pa sG::aE 163 Ob NY::aE 194 Kd kW::aE 193 Om iW::aE 238 M3 qA::aE 147 S6 Jp::aE 34 Ig rX::aE 33 M6 iU::x9
theorem Nj:AD xi:=by
 iterate 10 refine eY rfl ?_ λ_=>by kernel_rfl
 exact Qi
abbrev Af:=aE 225 Yv lT::aE 224 Nu hC::aE 267 JAt oC::aE 169 N7 JR::aE 201 Qw mS::aE 251 Wh qF::aE 252 Pr oE::aE 223 Rh lO::aE 266 K0 rW::aE 265 Ls NK::xi
theorem Yi:AD Af:=by
 iterate 10 refine eY rfl ?_ λ_=>by kernel_rfl
 exact Nj
abbrev wb:=aE 213 Lm gK::aE 217 Ia jU::aE 260 JAD GQ::aE 215 JAw eE::aE 214 Vf fY::aE 24 V2 JA::aE 139 M0 CJ::aE 151 Pl BQ::aE 159 Px Jo::aE 180 P6 mI::Af
theorem Km:AD wb:=by
 iterate 10 refine eY rfl ?_ λ_=>by kernel_rfl
 exact Yi
abbrev vu:=aE 75 JAH JN::aE 176 JA1 fQ::aE 184 L8 pX::aE 167 JB6 lL::aE 154 Hk gM::aE 170 Lh iD::aE 216 Lt eV::aE 259 Ts sO::aE 258 Ht pU::aE 257 Sz GY::wb
theorem JB3:AD vu:=by
 iterate 10 refine eY rfl ?_ λ_=>by kernel_rfl
 exact Km
abbrev xh:=aE 168 Q8 lR::aE 143 Yo CR::aE 156 Mk BA::aE 174 JEI AL::aE 209 Nz uZ::aE 175 Ul CF::aE 210 N1 oF::aE 211 S2 XI::aE 256 Wc OE::aE 212 Tp CA::vu
theorem O1:AD xh:=by
 iterate 10 refine eY rfl ?_ λ_=>by kernel_rfl
 exact JB3
abbrev xy:=aE 253 Q2 vA::aE 287 Q5 vB::aE 206 Qu mR::aE 254 V6 OG::aE 205 Lw NS::aE 171 Rw HC::aE 203 Pu BO::aE 202 O7 qD::aE 76 JB7 pT::aE 153 Ql sB::xh
theorem P8:AD xy:=by
 iterate 10 refine eY rfl ?_ λ_=>by kernel_rfl
 exact O1
abbrev wi:=aE 274 Mi UK::aE 232 Li AU::aE 142 Rn CG::aE 155 Ns qE::aE 173 V7 sJ::aE 208 Oi BP::aE 255 JB1 iV::aE 172 Ot UF::aE 207 Ks BE::aE 204 Ub sL::xy
theorem Lg:AD wi:=by
 iterate 10 refine eY rfl ?_ λ_=>by kernel_rfl
 exact P8
abbrev vo:=aE 235 JAB uQ::aE 276 Sd BZ::aE 237 Kk NP::aE 233 Uu OF::aE 234 N5 xP::aE 191 K3 pW::aE 189 Vz mP::aE 190 V1 CL::aE 231 Rz xY::aE 275 La TZ::wi
theorem JAu:AD vo:=by
 iterate 10 refine eY rfl ?_ λ_=>by kernel_rfl
 exact Lg
abbrev xr:=aE 291 Rj UE::aE 84 JBi cW::aE 183 Iv UA::aE 227 JAh TU::aE 161 Kt UD::aE 188 Td OC::aE 162 Hj fR::aE 192 Ih gL::aE 236 T3 uS::aE 277 JE3 AM::vo
theorem Rg:AD xr:=by
 iterate 10 refine eY rfl ?_ λ_=>by kernel_rfl
 exact JAu
abbrev x8:=aE 272 Rs UQ::aE 292 Mw UI::aE 295 Nt jf::aE 273 M8 CH::aE 187 Ta sM::aE 230 JBe sD::aE 185 O4 BY::aE 228 Xe CP::aE 271 JAT NG::aE 270 T6 XH::xr
theorem Po:AD x8:=by
 iterate 10 refine eY rfl ?_ λ_=>by kernel_rfl
 exact Rg
abbrev yp:=aE 198 W8 CM::aE 144 Si uU::aE 146 Ko BD::aE 160 Qp lP::aE 182 I6 rY::aE 226 Ka rZ::aE 268 Sc uR::aE 269 Ho uY::aE 186 Ky BI::aE 229 Kc AW::x8
theorem Xa:AD yp:=by
 iterate 10 refine eY rfl ?_ λ_=>by kernel_rfl
 exact Po
abbrev XW:=aE 284 V5 XM::aE 245 Wu XU::aE 282 O9 NW::aE 165 Us XR::aE 199 JA7 GO::aE 250 L3 GM::yp
theorem yd:AD XW:=by
 iterate 6 refine eY rfl ?_ λ_=>by kernel_rfl
 exact Xa
theorem S8(r x):onO (hM g_ref09_closed x) (λy=>lW (TG.of (aE 285 g_ref09_closed r::XW)) jw y.1 y.2 (iQ g_ref09_closed))=GX r x:=by kernel_rfl
abbrev yg:=aE 285 g_ref09_closed xx::XW
theorem R6:AD yg:=⟨ZR (fn:=jw) (l:=XW) rfl (yd) rfl S8 1100,yd⟩
abbrev ye:=aE 279 Vi WY::aE 240 S4 sK::aE 246 Vc sN::aE 283 JA0 AR::aE 248 H8 TN::aE 286 P0 US::aE 242 I8 NN::aE 243 L0 NL::aE 281 Tv xX::aE 247 Oq UM::yg
theorem Tr:AD ye:=by
 iterate 10 refine eY rfl ?_ λ_=>by kernel_rfl
 exact R6
abbrev xe:=aE 200 Kn lN::aE 164 JEM AN::aE 197 Xs qH::aE 196 Vp vE::aE 195 JCL rT::aE 239 Wf vD::aE 278 Um HA::aE 244 Hp NR::aE 241 Q9 qB::aE 280 Uq XT::ye
theorem Kx:AD xe:=by
 iterate 10 refine eY rfl ?_ λ_=>by kernel_rfl
 exact Tr
abbrev xm:=aE 178 Rc mM::aE 218 L4 BK::aE 219 Qc sC::aE 44 R5 CB::aE 77 Hg xR::aE 42 Re xN::aE 177 Hb UJ::aE 141 Za CX::aE 152 JD1 AO::aE 166 Ml AY::xe
theorem Ps:AD xm:=by
 iterate 10 refine eY rfl ?_ λ_=>by kernel_rfl
 exact Kx
abbrev xw:=aE 263 Oo XG::aE 290 Mt UC::aE 294 I3 UB::aE 220 L2 xQ::aE 50 Ru GZ::aE 86 Yr CV::aE 85 Zg JF::aE 87 Zj yA::aE 48 Wd oH::aE 157 Oz BR::xm
theorem N0:AD xw:=by
 iterate 10 refine eY rfl ?_ λ_=>by kernel_rfl
 exact Ps
abbrev zr:=aE 221 Wt CN::aE 262 K4 BL::aE 289 M1 kU::aE 261 Ri CI::aE 288 R9 CE::aE 293 T4 uX::aE 296 R2 XB::aE 299 Y2 OJ::aE 298 Zf sQ::aE 297 Sm CD::xw
theorem Wl:AD zr:=by
 iterate 10 refine eY rfl ?_ λ_=>by kernel_rfl
 exact N0
abbrev ue:=aE 11 JDj xF::aE 32 Y6 CW::aE 66 Zc CY::aE 99 H3 AQ::aE 124 Zt CT::aE 140 Zk qI::aE 145 Zm CU::aE 158 K5 NT::aE 179 Mb xS::aE 222 Pv BV::zr
theorem JEK:AD ue:=by
 iterate 10 refine eY rfl ?_ λ_=>by kernel_rfl
 exact Wl
abbrev G9:=bY 60 J8Y OM::aE 58 Sg xZ::aE 56 Sv XA::aE 18 Iw vx::aE 28 Y1 Aa::aE 23 Lj vc::aE 27 Rf mK::aE 62 Wn mO::aE 64 Ti xp::aE 31 V3 oI::ue
theorem J8K:AD G9:=by
 refine PQ rfl ?_ λ_=>by kernel_rfl
 iterate 9 refine eY rfl ?_ λ_=>by kernel_rfl
 exact JEK
abbrev G6:=bY 61 J8w ON::G9
theorem J8x:AD G6:=⟨JL8 (t:=J4) (N:=J8b) rfl,J8K⟩
abbrev YG:=bY 128 J9t J9a::bY 149 J8a J8e::bY 110 J76 J7b::bY 53 Xi OI::aE 55 J6S YI::aE 91 J7l YH::bY 51 Yz YC::G6
theorem G7:AD YG:=by
 iterate 4 refine PQ rfl ?_ λ_=>by kernel_rfl
 iterate 2 refine eY rfl ?_ λ_=>by kernel_rfl
 refine PQ rfl ?_ λ_=>by kernel_rfl
 exact J8x
theorem J8y(r x):onO (hM g_slices_symMergeCmpFunc_api_Entry__0 x) (λy=>lW (TG.of (bY 111 g_slices_symMergeCmpFunc_api_Entry__0 r::YG)) oe y.1 y.2 (iQ g_slices_symMergeCmpFunc_api_Entry__0))=G8 r x:=by kernel_rfl
abbrev G4:=bY 111 g_slices_symMergeCmpFunc_api_Entry__0 J8v::YG
theorem J8z:AD G4:=⟨Fa (fn:=oe) (l:=YG) rfl (G7) J8y 100,G7⟩
abbrev Yu:=aE 6 Xz YA::aE 25 Ov OB::aE 5 Xy X9::aE 22 JAs NE::bY 57 J68 og::bY 92 J9m J9l::G4
theorem X2:AD Yu:=by
 iterate 4 refine eY rfl ?_ λ_=>by kernel_rfl
 iterate 2 refine PQ rfl ?_ λ_=>by kernel_rfl
 exact J8z
end
end Go.Am
end
section
namespace Go.Proofs
open Go.Shelf Go.RowKit
def Tryz.ρA:Ren where
 f:=fun
  |99=>79
  |166=>37
  |169=>41
  |206=>104
  |240=>71
  |276=>101
  |167=>102
  |n=>n
 t:=fun
  |9=>9
  |3=>3
  |4=>4
  |20=>20
  |0=>0
  |46=>149
  |5=>5
  |72=>87
  |76=>90
  |51=>121
  |53=>164
  |70=>85
  |37=>22
  |75=>89
  |127=>126
  |164=>161
  |80=>94
  |n=>n
 g:=λn=>n
theorem Tryz.laysWS:Lays.n166 Tryz.prog Tryz.ρA where
 mixed:=by kernel_rfl
 f166:=by kernel_rfl
 f240:=by kernel_rfl
 f276:=by kernel_rfl
 t0:=Tryz.underlying0
 a0:=Tryz.isAgg0
 z0:=Tryz.sizeOf0
 v0:=Tryz.zeroValue0
 t3:=Tryz.underlying3
 a3:=Tryz.isAgg3
 z3:=Tryz.sizeOf3
 v3:=Tryz.zeroValue3
 t4:=Tryz.underlying4
 a4:=Tryz.isAgg4
 z4:=Tryz.sizeOf4
 v4:=Tryz.zeroValue4
 t9:=Tryz.underlying9
 a9:=Tryz.isAgg9
 z9:=Tryz.sizeOf9
 v9:=Tryz.zeroValue9
 t20:=Tryz.underlying20
 a20:=Tryz.isAgg20
 z20:=Tryz.sizeOf20
 v20:=Tryz.zeroValue20
 t37:=Tryz.underlying22
 a37:=Tryz.isAgg22
 z37:=Tryz.sizeOf22
 v37:=Tryz.zeroValue22
 t70:=Tryz.underlying85
 a70:=Tryz.isAgg85
 z70:=Tryz.sizeOf85
 v70:=Tryz.zeroValue85
 t72:=Tryz.underlying87
 a72:=Tryz.isAgg87
 z72:=Tryz.sizeOf87
 v72:=Tryz.zeroValue87
 t75:=Tryz.underlying89
 a75:=Tryz.isAgg89
 z75:=Tryz.sizeOf89
 v75:=Tryz.zeroValue89
 t164:=Tryz.underlying161
 a164:=Tryz.isAgg161
 z164:=Tryz.sizeOf161
 v164:=Tryz.zeroValue161
theorem Tryz.laysST:Lays.n169 Tryz.prog Tryz.ρA where
 mixed:=by kernel_rfl
 f169:=by kernel_rfl
 t0:=Tryz.underlying0
 a0:=Tryz.isAgg0
 z0:=Tryz.sizeOf0
 v0:=Tryz.zeroValue0
 t3:=Tryz.underlying3
 a3:=Tryz.isAgg3
 z3:=Tryz.sizeOf3
 v3:=Tryz.zeroValue3
 t9:=Tryz.underlying9
 a9:=Tryz.isAgg9
 z9:=Tryz.sizeOf9
 v9:=Tryz.zeroValue9
 t37:=Tryz.underlying22
 a37:=Tryz.isAgg22
 z37:=Tryz.sizeOf22
 v37:=Tryz.zeroValue22
 t70:=Tryz.underlying85
 a70:=Tryz.isAgg85
 z70:=Tryz.sizeOf85
 v70:=Tryz.zeroValue85
 t72:=Tryz.underlying87
 a72:=Tryz.isAgg87
 z72:=Tryz.sizeOf87
 v72:=Tryz.zeroValue87
 t127:=Tryz.underlying126
 a127:=Tryz.isAgg126
 z127:=Tryz.sizeOf126
 v127:=Tryz.zeroValue126
theorem Tryz.laysWB:Lays.n167 Tryz.prog Tryz.ρA where
 mixed:=by kernel_rfl
 f167:=by kernel_rfl
 f240:=by kernel_rfl
 f276:=by kernel_rfl
 t0:=Tryz.underlying0
 a0:=Tryz.isAgg0
 z0:=Tryz.sizeOf0
 v0:=Tryz.zeroValue0
 t4:=Tryz.underlying4
 a4:=Tryz.isAgg4
 z4:=Tryz.sizeOf4
 v4:=Tryz.zeroValue4
 t5:=Tryz.underlying5
 a5:=Tryz.isAgg5
 z5:=Tryz.sizeOf5
 v5:=Tryz.zeroValue5
 t9:=Tryz.underlying9
 a9:=Tryz.isAgg9
 z9:=Tryz.sizeOf9
 v9:=Tryz.zeroValue9
 t20:=Tryz.underlying20
 a20:=Tryz.isAgg20
 z20:=Tryz.sizeOf20
 v20:=Tryz.zeroValue20
 t37:=Tryz.underlying22
 a37:=Tryz.isAgg22
 z37:=Tryz.sizeOf22
 v37:=Tryz.zeroValue22
 t70:=Tryz.underlying85
 a70:=Tryz.isAgg85
 z70:=Tryz.sizeOf85
 v70:=Tryz.zeroValue85
 t72:=Tryz.underlying87
 a72:=Tryz.isAgg87
 z72:=Tryz.sizeOf87
 v72:=Tryz.zeroValue87
 t75:=Tryz.underlying89
 a75:=Tryz.isAgg89
 z75:=Tryz.sizeOf89
 v75:=Tryz.zeroValue89
 t164:=Tryz.underlying161
 a164:=Tryz.isAgg161
 z164:=Tryz.sizeOf161
 v164:=Tryz.zeroValue161
theorem Tryz.extraRep:Builder.Extra Tryz.prog Tryz.ρA where
 sizeBuilder:=by kernel_rfl
 liesBuilder:=by kernel_rfl
 t5:=Tryz.underlying5
 a5:=Tryz.isAgg5
 z5:=Tryz.sizeOf5
 v5:=Tryz.zeroValue5
 infoByte:=by kernel_rfl
 cellsByte:=by kernel_rfl
 sizeByte:=by kernel_rfl
 neB5:=by decide
theorem Tryz.WriteByte(B b:Nat)(g:List Value)(c:Int)(w:World)(h:Lib.IsBuilder 87 5 B b g w)(hlen:g.length+1<=140737488355328)(j:B<=w.heap.size):
  Calls Tryz.prog 102 #[.pointer (some ⟨b,0,none⟩),.int .u8 c] w λe w'=>e=.returned .nilIface/\(Lib.BuilderAt 87 5 B b (.pointer (some ⟨b,0,none⟩)) (g++[.int .u8 c]) w'/\Below B w w'):=
 Any.Builder_WriteByte Tryz.laysWB Tryz.extraRep B b g c w h hlen j
theorem Tryz.WriteString(B b:Nat)(g:List Value)(s:ByteArray)(w:World)(h:Lib.IsBuilder 87 5 B b g w)(hlen:g.length+s.size<=140737488355328)(j:B<=w.heap.size):
  Calls Tryz.prog 37 #[.pointer (some ⟨b,0,none⟩),.string s] w λe w'=>e=.returned (.tuple #[.int .i64 s.size,.nilIface])/\(Lib.BuilderAt 87 5 B b (.pointer (some ⟨b,0,none⟩)) (g++Lib.strCells s) w'/\Below B w w'):=
 Any.Builder_WriteString Tryz.laysWS Tryz.extraRep B b g s w h hlen j
theorem Tryz.String(B b:Nat)(l:List UInt8)(w:World)(h:Lib.IsBuilder 87 5 B b (Lib.byteCells l) w)(g:B<=w.heap.size):
  Calls Tryz.prog 41 #[.pointer (some ⟨b,0,none⟩)] w λe w'=>e=.returned (.string ⟨l.toArray⟩)/\Below B w w':=
 Any.Builder_String_any Tryz.laysST Tryz.extraRep B b l w h g
theorem Tb(l:List UInt8)(n:Int)(k:Nat):Lib.byteCells (l++Am.J0E n k)++[.int .u8 (Am.J7e n k)]=Lib.byteCells (l++Am.J0E n (k+1)):=by
 rw[Am.JrX,<-List.append_assoc,Lib.byteCells_append (l++Am.J0E n k)]
 congr 1
 show [Value.int .u8 _]=[Value.int .u8 ((UInt8.ofNat (Am.J7e n k).toNat).toNat:Int)];rw[Am.Joc]
set_option maxHeartbeats 6400000 in
set_option maxRecDepth 100000 in
theorem Tryz.put(s:ByteArray)(n:Int)(k:Nat)(hk:1<=k)(C:k<=8)(hs:s.size+8<=140737488355328)(w:World):
  Calls Tryz.prog 72 #[.string s,.int .i64 n,.int .i64 k] w λe w'=>e=.returned (.string ⟨(s.data.toList++Am.J0E n k).toArray⟩)/\Below w.heap.size w w':=by
 have D:s.data.toList.length=s.size:=(Lib.size_eq s).symm;have v:Lib.IsBuilder 87 5 w.heap.size w.heap.size [] (w.alloc (.cells #[.pointer none,.slice none 0 0] 87)):=Lib.fresh_isBuilder 87 5 w;have h:Below w.heap.size w (w.alloc (.cells #[.pointer none,.slice none 0 0] 87)):=(Below.refl _ w).alloc (Nat.le_refl _) _
 go_enter Tryz.func72,Tryz.ntmps72
 go_wp2_with (go_at_call 37;refine(Tryz.WriteString w.heap.size w.heap.size [] s _ v (by simp;omega) h.size).mono ?_)
 rintro e x ⟨rfl,h1,b1⟩;have q:Lib.IsBuilder 87 5 w.heap.size w.heap.size (Lib.byteCells (s.data.toList++Am.J0E n 0)) x:=by rw[List.nil_append,Lib.strCells_eq]at h1;have z:Am.J0E n 0=[]:=rfl;rw[z,List.append_nil];exact Or.inr h1
 have r:=h.trans b1;clear h1 b1 v h
 go_wp2
 go_loopw [19] (λi wr=> ∃j:Nat,j<=k/\i=.int .i64 j/\Lib.IsBuilder 87 5 w.heap.size w.heap.size (Lib.byteCells (s.data.toList++Am.J0E n j)) wr/\Below w.heap.size w wr)
  (λi _=>k-(intOf i).toNat)
 case atStart=>exact⟨0,Nat.zero_le _,rfl,q,r⟩
 case round=>
  obtain⟨j,E,rfl,o,g⟩:=hrel;by_cases B:j<k
  ·go_wp2_with (go_at_call 102;refine(Tryz.WriteByte w.heap.size w.heap.size _ _ _ o (by rw[Lib.byteCells_length,List.length_append,Am.JT];omega) g.size).mono ?_;rintro e y ⟨rfl,h2,b2⟩)
   have A:Am.J7e n j=IntKind.u64.wrap n/2^(8*j)%256:=by show((IntKind.wrap .u64 n).fdiv (2^(8*j)))%256=_;rw[Int.fdiv_eq_ediv_of_nonneg _ (Int.le_of_lt (Int.pow_pos (by decide)))]
   rw[<-A,Tb]at h2;exact⟨⟨j+1,by omega,by simp,Or.inr h2,g.trans b2⟩,by simp[intOf];omega⟩
  ·obtain rfl:j=k:=by omega
   go_wp2_with (go_at_call 41;refine(Tryz.String w.heap.size w.heap.size _ _ o g.size).mono ?_;rintro e y ⟨rfl,b2⟩)
   go_wp2
   go_ret
   exact⟨rfl,g.trans b2⟩
theorem Tryz.put_out(s:ByteArray)(n k:Int)(hk:k<1\/8<k)(w:World):
  Calls Tryz.prog 72 #[.string s,.int .i64 n,.int .i64 k] w λe w'=>e=.returned (.string s)/\Below w.heap.size w w':=by
 go_enter Tryz.func72,Tryz.ntmps72
 go_wp2
 all_goals (go_ret;exact⟨rfl,Below.refl _ _⟩)
theorem JJ4(l:List UInt8):(⟨l.toArray⟩:ByteArray).data.toList=l:=rfl
theorem Ir(args:List Am.AV)(blks:List Am.Blk)(r:Am.Res)(h:Am.JDa args blks=some r):Am.J5f Tryz.prog 72 args blks r:=by
 unfold Am.JDa at h;split at h;rename_i bl l n k;obtain⟨x,e,rfl⟩:=Option.map_eq_some_iff.1 h;unfold Am.Jl9 at e;split at e;rename_i hc;injection e with e;subst e;exact Am.JCA (xs:=[.s l,.i .i64 n,.i .i64 k]) (vs:=[.string ⟨l.toArray⟩,.int .i64 n,.int .i64 k]) (v:=.string ⟨l.toArray⟩) ⟨_,Tryz.func72,by decide,by decide⟩ rfl rfl λw=>Tryz.put_out _ n k hc w;rename_i hc;split at e;rename_i h2;injection e with e;subst e;refine Am.JCA (xs:=[.s l,.i .i64 n,.i .i64 k]) (vs:=[.string ⟨l.toArray⟩,.int .i64 n,.int .i64 k]) (v:=.string ⟨(l++Am.J0E n k.toNat).toArray⟩) ⟨_,Tryz.func72,by decide,by decide⟩ rfl rfl λw=>?_;have g:=Tryz.put ⟨l.toArray⟩ n k.toNat (by omega) (by omega) (by rw[Lib.size_eq];exact h2) w;rw[JJ4,show((k.toNat:Nat):Int)=k by omega]at g;exact g;cases e;cases h
end Go.Proofs
end
section
namespace Go.Proofs
open Go.Shelf Go.RowKit Go.Lib Go.Sort
def Tryz.ρS:Ren where
 f:=fun
  |6=>61
  |14=>94
  |15=>95
  |20=>110
  |21=>112
  |22=>113
  |23=>114
  |24=>115
  |25=>116
  |26=>117
  |27=>118
  |28=>119
  |29=>120
  |46=>129
  |47=>130
  |48=>131
  |49=>132
  |50=>133
  |57=>150
  |n=>n
 t:=fun
  |0=>0
  |3=>3
  |4=>4
  |5=>5
  |9=>9
  |22=>26
  |24=>52
  |25=>61
  |39=>149
  |45=>168
  |46=>169
  |50=>173
  |53=>121
  |55=>164
  |66=>193
  |70=>197
  |76=>213
  |77=>214
  |n=>n
 g:=λn=>n
set_option maxRecDepth 100000 in
theorem Tryz.laysSort:SlLaysF0.n6 Tryz.prog Tryz.ρS where
 mixed:=by kernel_rfl
 f6:=⟨"slices.SortFunc[[]pagemend/api.Entry,pagemend/api.Entry]",by decide,by kernel_rfl⟩
 f14:=⟨"slices.pdqsortCmpFunc[pagemend/api.Entry]",by decide,by kernel_rfl⟩
 f15:=by kernel_rfl
 f20:=⟨"slices.insertionSortCmpFunc[pagemend/api.Entry]",by decide,by kernel_rfl⟩
 f21:=⟨"slices.heapSortCmpFunc[pagemend/api.Entry]",by decide,by kernel_rfl⟩
 f22:=⟨"slices.breakPatternsCmpFunc[pagemend/api.Entry]",by decide,by kernel_rfl⟩
 f23:=⟨"slices.choosePivotCmpFunc[pagemend/api.Entry]",by decide,by kernel_rfl⟩
 f24:=⟨"slices.reverseRangeCmpFunc[pagemend/api.Entry]",by decide,by kernel_rfl⟩
 f25:=⟨"slices.partialInsertionSortCmpFunc[pagemend/api.Entry]",by decide,by kernel_rfl⟩
 f26:=⟨"slices.partitionEqualCmpFunc[pagemend/api.Entry]",by decide,by kernel_rfl⟩
 f27:=⟨"slices.partitionCmpFunc[pagemend/api.Entry]",by decide,by kernel_rfl⟩
 f28:=by kernel_rfl
 f29:=by kernel_rfl
 f46:=⟨"slices.siftDownCmpFunc[pagemend/api.Entry]",by decide,by kernel_rfl⟩
 f47:=by kernel_rfl
 f48:=by kernel_rfl
 f49:=⟨"slices.medianAdjacentCmpFunc[pagemend/api.Entry]",by decide,by kernel_rfl⟩
 f50:=⟨"slices.medianCmpFunc[pagemend/api.Entry]",by decide,by kernel_rfl⟩
 f57:=⟨"slices.order2CmpFunc[pagemend/api.Entry]",by decide,by kernel_rfl⟩
 t0:=Tryz.underlying0
 a0:=Tryz.isAgg0
 z0:=Tryz.sizeOf0
 v0:=Tryz.zeroValue0
 t3:=Tryz.underlying3
 a3:=Tryz.isAgg3
 z3:=Tryz.sizeOf3
 v3:=Tryz.zeroValue3
 t4:=Tryz.underlying4
 a4:=Tryz.isAgg4
 z4:=Tryz.sizeOf4
 v4:=Tryz.zeroValue4
 t5:=Tryz.underlying5
 a5:=Tryz.isAgg5
 z5:=Tryz.sizeOf5
 v5:=Tryz.zeroValue5
 t9:=Tryz.underlying9
 a9:=Tryz.isAgg9
 z9:=Tryz.sizeOf9
 v9:=Tryz.zeroValue9
 t22:=Tryz.underlying26
 a22:=Tryz.isAgg26
 z22:=Tryz.sizeOf26
 v22:=Tryz.zeroValue26
 t25:=Tryz.underlying61
 a25:=Tryz.isAgg61
 z25:=Tryz.sizeOf61
 v25:=Tryz.zeroValue61
 t39:=Tryz.underlying149
 a39:=Tryz.isAgg149
 z39:=Tryz.sizeOf149
 v39:=Tryz.zeroValue149
 t45:=Tryz.underlying168
 a45:=Tryz.isAgg168
 z45:=Tryz.sizeOf168
 v45:=Tryz.zeroValue168
 t46:=Tryz.underlying169
 a46:=Tryz.isAgg169
 z46:=Tryz.sizeOf169
 v46:=Tryz.zeroValue169
 t50:=Tryz.underlying173
 a50:=Tryz.isAgg173
 z50:=Tryz.sizeOf173
 v50:=Tryz.zeroValue173
 t53:=Tryz.underlying121
 a53:=Tryz.isAgg121
 z53:=Tryz.sizeOf121
 v53:=Tryz.zeroValue121
 t55:=Tryz.underlying164
 a55:=Tryz.isAgg164
 z55:=Tryz.sizeOf164
 v55:=Tryz.zeroValue164
 t66:=Tryz.underlying193
 a66:=Tryz.isAgg193
 z66:=Tryz.sizeOf193
 v66:=Tryz.zeroValue193
 t70:=Tryz.underlying197
 a70:=Tryz.isAgg197
 z70:=Tryz.sizeOf197
 v70:=Tryz.zeroValue197
 t76:=Tryz.underlying213
 a76:=Tryz.isAgg213
 z76:=Tryz.sizeOf213
 v76:=Tryz.zeroValue213
 t77:=Tryz.underlying214
 a77:=Tryz.isAgg214
 z77:=Tryz.sizeOf214
 v77:=Tryz.zeroValue214
set_option maxHeartbeats 1000000 in
theorem Tryz.nan(x:Int)(W:World):Calls Tryz.prog 93 #[.int .i64 x] W λe w'=>e=.returned (.bool false)/\w'=W:=by
 go_enter Tryz.func93,Tryz.ntmps93
 go_wp2
 all_goals (go_ret;exact⟨by simp,rfl⟩)
set_option maxHeartbeats 2000000 in
theorem Tryz.cmpInt(x y:Int)(W:World):Calls Tryz.prog 59 #[.int .i64 x,.int .i64 y] W λe w'=>e=.returned (.int .i64 (Lib.compareInt x y))/\w'=W:=by
 go_enter Tryz.func59,Tryz.ntmps59
 go_wp2_with (go_at_call 93;refine(Tryz.nan _ _).mono ?_;rintro e w' ⟨rfl,rfl⟩)
 all_goals (go_ret;refine⟨?_,rfl⟩;unfold Lib.compareInt;simp_all;try (rw[if_neg (by omega),if_neg (by omega)]))
set_option maxHeartbeats 2000000 in
theorem Tryz.cmpOr(r o cap:Nat)(x y v:Int)(hv:(if x=0 then y else x)=v)(W:World)(h0:W.cell? ⟨r,o,none⟩=some (.int .i64 x))(h1:W.cell? ⟨r,o+1,none⟩=some (.int .i64 y)):
  Calls Tryz.prog 65 #[.slice (some ⟨r,o,none⟩) 2 cap] W λe w'=>e=.returned (.int .i64 v)/\w'=W:=by
 subst hv
 go_enter Tryz.func65,Tryz.ntmps65
 go_wp2
 by_cases g:x=0
 ·subst g;by_cases h:y=0
  ·subst h;refine wp_loop_rounds 3 ?_;rw[rounds_succ]
   go_wp2
   rw[rounds_succ]
   go_wp2
   rw[rounds_succ]
   go_wp2
   go_ret
   exact⟨rfl,rfl⟩
  ·refine wp_loop_rounds 2 ?_;rw[rounds_succ]
   go_wp2
   rw[rounds_succ]
   go_wp2
   go_ret
   exact⟨rfl,rfl⟩
 ·refine wp_loop_rounds 1 ?_;rw[rounds_succ]
  go_wp2
  go_ret
  exact⟨by simp[g],rfl⟩
def CSt(W:World)(x0 g y0 e:Int)(w':World):Prop:=w'.cell? ⟨W.heap.size,0,none⟩=some (.int .i64 x0)/\w'.cell? ⟨W.heap.size,6,none⟩=some (.int .i64 g)/\w'.cell? ⟨W.heap.size+1,0,none⟩=some (.int .i64 y0)/\w'.cell? ⟨W.heap.size+1,6,none⟩=some (.int .i64 e)/\ ∃n os,w'=grow (W.drewN n) os
theorem TH{w:World}{a:Addr}{v:Value}(h:w.cell? a=some v)(o:Obj):(w.alloc o).cell? a=some v:=by rw[<-h];exact World.cell?_of_block (Below.heap_alloc w o a.block (block_lt_of_cell h))
theorem CSt.alloc{W w:World}{x0 g y0 e:Int}(h:CSt W x0 g y0 e w)(o:Obj):CSt W x0 g y0 e (w.alloc o):=by obtain⟨h1,h2,q,j,n,os,k⟩:=h;exact⟨TH h1 o,TH h2 o,TH q o,TH j o,n,_,by rw[alloc_eq_grow,k,grow_grow]⟩
set_option maxRecDepth 100000 in
set_option maxHeartbeats 4000000 in
theorem Tryz.closS(x y:Am.ET)(W:World):Calls Tryz.prog 30 #[.agg (Am.enT x).toArray,.agg (Am.enT y).toArray] W λe w'=>e=.returned (.int .i64 (Am.Jhk x y))/\ ∃q J,w'=grow (W.drewN q) J:=by
 obtain⟨x0,X,x2,x3,x4,Q,⟨k,I,⟨R,O⟩,E,w⟩,C⟩:=x;obtain⟨r,H,S,K,P,M,⟨j,G,⟨L,N⟩,z,F⟩,D⟩:=y;unfold Am.Jhk Am.enT;dsimp only;generalize hv:(if Lib.compareInt k j=0 then Lib.compareInt x0 r else Lib.compareInt k j)=v
 go_enter Tryz.func30,Tryz.ntmps30
 go_wp2
 have U: ∀o,o<13-> ∀(A B:Obj),((W.alloc A).alloc B).cell? ⟨W.heap.size,o,none⟩=(W.alloc A).cell? ⟨W.heap.size,o,none⟩:=λo _ A B=>World.cell?_of_block (Below.heap_alloc _ _ _ (by simp));obtain⟨h,g⟩: ∃h,h=(W.alloc (.cells #[.int .i64 x0,.int .i64 X,.int .i64 x2,.int .i64 x3,.int .i64 x4,.int .i64 Q,.int .i64 k,.int .i64 I,.bool R,.string ⟨O.toArray⟩,.bool E,.string ⟨w.toArray⟩,.string ⟨C.toArray⟩] 52)).alloc (.cells #[.int .i64 r,.int .i64 H,.int .i64 S,.int .i64 K,.int .i64 P,.int .i64 M,.int .i64 j,.int .i64 G,.bool L,.string ⟨N.toArray⟩,.bool z,.string ⟨F.toArray⟩,.string ⟨D.toArray⟩] 52):=⟨_,rfl⟩;have c0:h.cell? ⟨W.heap.size,0,none⟩=some (.int .i64 x0):=by rw[g];simp
 have c6:h.cell? ⟨W.heap.size,6,none⟩=some (.int .i64 k):=by rw[g];simp
 have Y:h.cell? ⟨W.heap.size+1,0,none⟩=some (.int .i64 r):=by rw[g];simp
 have V:h.cell? ⟨W.heap.size+1,6,none⟩=some (.int .i64 j):=by rw[g];simp
 have T:h=grow W #[(.cells #[.int .i64 x0,.int .i64 X,.int .i64 x2,.int .i64 x3,.int .i64 x4,.int .i64 Q,.int .i64 k,.int .i64 I,.bool R,.string ⟨O.toArray⟩,.bool E,.string ⟨w.toArray⟩,.string ⟨C.toArray⟩] 52),(.cells #[.int .i64 r,.int .i64 H,.int .i64 S,.int .i64 K,.int .i64 P,.int .i64 M,.int .i64 j,.int .i64 G,.bool L,.string ⟨N.toArray⟩,.bool z,.string ⟨F.toArray⟩,.string ⟨D.toArray⟩] 52)]:=by rw[g,alloc_eq_grow,alloc_eq_grow,grow_grow];rfl
 rw[<-g];clear g U;have hS:CSt W x0 k r j h.drew:=⟨c0,c6,Y,V,1,_,by rw[T];rfl⟩;clear T
 go_region_held3 (λw':World=>w'.cell? ⟨W.heap.size,0,none⟩=some (.int .i64 x0)/\w'.cell? ⟨W.heap.size,6,none⟩=some (.int .i64 k)/\w'.cell? ⟨W.heap.size+1,0,none⟩=some (.int .i64 r)/\w'.cell? ⟨W.heap.size+1,6,none⟩=some (.int .i64 j)/\ ∃n os,w'=grow (W.drewN n) os)
  (first|assumption|exact hS|exact CSt.alloc (by assumption) _)
  (first
   |(go_at_call 59;refine(Tryz.cmpInt _ _ _).mono ?_;rintro e w' ⟨rfl,rfl⟩)
   |(go_at_call 65;refine(Tryz.cmpOr _ _ _ (Lib.compareInt k j) (Lib.compareInt x0 r) v hv _ (by simp) (by simp)).mono ?_;rintro e w' ⟨rfl,rfl⟩))
 all_goals
  rename_i Z;obtain⟨_,_,_,_,n,os,hw⟩:=Z
  go_wp2
  go_ret
  exact⟨rfl,n,os,hw⟩
theorem Tryz.ltS{x y:Am.ET}(hx:Am.J8b x=true)(hy:Am.J8b y=true):ltOf Am.Jhk x y=decide (Am.J75 x<Am.J75 y):=by
 unfold Am.J8b at hx hy;unfold ltOf Am.Jhk Am.J75 Lib.compareInt;grind
theorem Tryz.swoS:SWO (ltOf Am.Jhk) where
 irrefl x:=by unfold ltOf Am.Jhk Lib.compareInt;grind
 trans x y z h1 h2:=by unfold ltOf Am.Jhk Lib.compareInt at*;grind
 ntrans x y z h1 h2:=by unfold ltOf Am.Jhk Lib.compareInt at*;grind
set_option maxHeartbeats 2000000 in
theorem Tryz.ins0(a:Option Addr)(cap:Nat)(g:Value)(w:World):Calls Tryz.prog 110 #[.slice a 0 cap,.int .i64 0,.int .i64 0,g] w λe w'=>e=.returned (.tuple #[])/\w'=w:=by
 go_enter Tryz.func110,Tryz.ntmps110
 go_wp2
 refine wp_loop_rounds 1 ?_;rw[rounds_succ]
 go_wp2
 go_end0
 exact⟨rfl,rfl⟩
set_option maxHeartbeats 2000000 in
theorem Tryz.pdq0(a:Option Addr)(cap:Nat)(g:Int)(h:Value)(w:World):Calls Tryz.prog 94 #[.slice a 0 cap,.int .i64 0,.int .i64 0,.int .i64 g,h] w λe w'=>e=.returned (.tuple #[])/\w'=w:=by
 go_enter Tryz.func94,Tryz.ntmps94
 go_wp2
 refine wp_loop_rounds 1 ?_;rw[rounds_succ]
 go_wp2_with (go_at_call 110;refine(Tryz.ins0 _ _ _ _).mono ?_;rintro e w' ⟨rfl,rfl⟩)
 (try simp only[Exit.inBlock,Exit.then]);refine bodyPost_ret (results_none rfl _ _ _) rfl ?_
 exact⟨rfl,rfl⟩
set_option maxHeartbeats 2000000 in
theorem Tryz.sort0(a:Option Addr)(cap:Nat)(h:Value)(w:World):Calls Tryz.prog 61 #[.slice a 0 cap,h] w λe w'=>e=.returned (.tuple #[])/\w'=w:=by
 have g:=Any.bits_Len (SlLaysF0.n15.bits (P:=Tryz.prog) (ρ:=Tryz.ρS) {Tryz.laysSort with}) 0 w (by omega) (by omega);change Calls Tryz.prog 95 _ _ _ at g
 go_enter Tryz.func61,Tryz.ntmps61
 go_wp2_with (first|(go_at_call 95;refine g.mono ?_;rintro e w' ⟨rfl,rfl⟩)|(go_at_call 94;refine(Tryz.pdq0 _ _ _ _ _).mono ?_;rintro e w' ⟨rfl,rfl⟩))
 go_end0
 exact⟨rfl,rfl⟩
theorem J85(args:List Am.AV)(blks:List Am.Blk)(r:Am.Res)(h:Am.Jk8 13 30 (Am.Jfq Am.J4 Am.J8b) (Am.cel Am.J4) Am.J75 args blks=some r):Am.J5f Tryz.prog 61 args blks r:=by
 have E: ∀args w,(callFunc 30 args).run Tryz.prog w=.ok (.enter 30 args) w:=enters_of Tryz.func30 (by kernel_rfl) rfl;refine Am.JH9 (α:=Am.ET) (enc:=Am.enT) (N:=λx=>Am.J8b x=true) ⟨_,Tryz.func61,by decide,by decide⟩ (by decide) (λrow x h=>(Am.JrS h).1) (λrow x h=>(Am.JrS h).2) (λx=>rfl) (λx=>rfl)
  (λa cap w=>Tryz.sort0 a cap _ w)
  (λblk cap d w G F H o=>?_) args blks r h
 refine(AnyQ.slices_SortFunc Tryz.laysSort 13 Tryz.isAgg52 Tryz.sizeOf52 Am.enT (λ_=>rfl) (λx v D=>by simp[Am.enT]at D;rcases D with rfl|rfl|rfl|rfl|rfl|rfl|rfl|rfl|rfl|rfl|rfl|rfl|rfl<;>rfl) Am.Jhk Tryz.swoS 30 #[] blk 0 cap d w E (λ_ _ _ _ x y=>Tryz.closS x y _) F H o).mono ?_;rintro e w' ⟨h1,g,n,os,k,z,J⟩;refine⟨h1,g,n,os,k,?_,J⟩;have C: ∀i,i<d.size->Am.J8b g[i]! =true:=λi hi=>by
  have o:=k.1;have h2:g[i]! ∈(g.extract 0 d.size).toList:=by rw[show d.size=g.size from o.symm,Array.extract_size,getElem!_pos g i (by omega)];exact Array.mem_toList_iff.2 (Array.getElem_mem _)
  have B:=k.2.2.mem_iff.1 h2;rw[Array.extract_size]at B;exact G _ (Array.mem_toList_iff.1 B)
 intro i j I K A;have q:=z i j I K A;rw[Tryz.ltS (C j A) (C i (by omega))]at q;exact q
end Go.Proofs
end
