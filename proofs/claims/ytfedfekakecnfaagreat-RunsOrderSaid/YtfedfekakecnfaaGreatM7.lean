/-
  Parts of a proof.
-/
import Derived.Shelf.Strings.Builder1
import Derived.Shelf.Lays
import Derived.Test.YtfedfekakecnfaaGreatProg
import Derived.Lib.Agree
import Derived.KernelRfl
import Derived.WalkKit
import Derived.BigCall
import Derived.Shelf.SlSortCmp.WholeK
import Derived.Shelf.SlLaysF0
import Derived.Test.YtfedfekakecnfaaGreatChecked
import Derived.WalkSpells
import Derived.Tactics
import Derived.Tactics2
import Derived.Deep.RegionHeld3
import Derived.StillTactics
import Derived.Test.YtfedfekakecnfaaGreatM2
import Derived.Test.YtfedfekakecnfaaGreatM3
import Derived.Test.YtfedfekakecnfaaGreatM4
import Derived.Test.YtfedfekakecnfaaGreatM6
set_option linter.unusedSimpArgs false
set_option linter.unusedVariables false
section
namespace Go.Am
set_option maxRecDepth 20000
set_option maxHeartbeats 4000000
noncomputable section
theorem Z5{i g S l f}(hf: ∀p,tB p i=some (.fn (aM f)))(A:AE l)(q: ∀x,onO (gN g x) (λy=>lO (TG.of l) f y.1 y.2 (hM g))=S x):AE (bZ i g S::l):=λp=>⟨YB (hf p) (A p) q,A p⟩
theorem Yk(r x):onO (gN g_draw_Codes_Next x) (λy=>lO (TG.of (aF 21 g_draw_Codes_Next r::[])) nu y.1 y.2 (hM g_draw_Codes_Next))=GU r x:=by kernel_rfl
abbrev Av:=aF 21 g_draw_Codes_Next Ji::[]
theorem Yf:AE Av:=λp=>⟨YS (fn:=nu) (l:=[]) rfl (ae0 p) rfl Yk 100,ae0 p⟩
abbrev xz:=aF 89 Rt Pr::aF 109 WC CJ::aF 108 CL lI::aF 105 CL hX::aF 106 WC xT::aF 107 WC uP::aF 126 ja BY::aF 127 Ax JR::aF 88 Uv pM::aF 10 JBx uH::Av
theorem Pg:AE xz:=by
 iterate 10 refine CV (λ_=>rfl) ?_ λ_=>by kernel_rfl
 exact Yf
abbrev xj:=aF 19 Aw iL::bZ 53 X6 GS::bZ 51 Aw GW::aF 90 CL Jt::aF 30 yc GO::aF 65 wg BK::aF 59 Yo sI::aF 93 ja GV::aF 52 CL rY::xz
theorem vc:AE xj:=by
 refine CV (λ_=>rfl) ?_ λ_=>by kernel_rfl
 iterate 2 refine Z5 (λ_=>rfl) ?_ λ_=>by kernel_rfl
 iterate 6 refine CV (λ_=>rfl) ?_ λ_=>by kernel_rfl
 exact Pg
abbrev ve:=aF 72 uc fD::xj
theorem H7:AE ve:=λp=>⟨JIs rfl,vc p⟩
abbrev vd:=aF 39 Kr xJ::ve
theorem tx:AE vd:=by
 refine CV (λ_=>rfl) ?_ λ_=>by kernel_rfl
 exact H7
abbrev yl:=aF 38 wz mK::aF 73 ua SS::aF 103 Ze XH::vd
theorem xu:AE yl:=by
 iterate 3 refine CV (λ_=>rfl) ?_ λ_=>by kernel_rfl
 exact tx
abbrev zk:=aF 40 x8 uR::aF 74 ug gp::yl
theorem yv:AE zk:=by
 iterate 2 refine CV (λ_=>rfl) ?_ λ_=>by kernel_rfl
 exact xu
noncomputable def yZ:PS:=λf=>if f=13 then some (yB fW GG)else none
theorem Rx:tB yZ 13=some (.prim (yB fW GG)):=rfl
def AD(l:List TE):Prop:=tC (AF (tB yZ)) l
theorem eR{i g S l f}(hf:tB yZ i=some (.fn (aM f)))(A:AD l)(q: ∀x,onO (gN g x) (λy=>lO (TG.of l) f y.1 y.2 (hM g))=S x)(hs:FC g=true:=by rfl):AD (aF i g S::l):=⟨na hf A hs q,A⟩
theorem m4{i g S l f}(hf:tB yZ i=some (.fn (aM f)))(A:AD l)(q: ∀x,onO (gN g x) (λy=>lO (TG.of l) f y.1 y.2 (hM g))=S x):AD (bZ i g S::l):=⟨YB hf A q,A⟩
abbrev xy:=aF 13 Sc GG::zk
theorem Qp:AD xy:=⟨JJI Rx,yv yZ⟩
abbrev vq:=aF 135 Ki xK::aF 137 Kt Ly::aF 123 Ll FY::aF 138 Tw WL::aF 100 Zv XL::aF 125 Yq XI::aF 148 Za NV::aF 35 Ya gY::aF 70 Yv GT::aF 9 Pw WE::xy
theorem Ky:AD vq:=by
 iterate 10 refine eR rfl ?_ λ_=>by kernel_rfl
 exact Qp
abbrev yy:=aF 67 Tf dJ::aF 68 vt lB::aF 63 CL Jl::aF 96 Qn pP::aF 121 WC kK::aF 134 Ax JR::aF 97 Tj kM::aF 98 Ii uI::aF 122 Lv xL::aF 136 Ku AP::vq
theorem S2:AD yy:=by
 iterate 10 refine eR rfl ?_ λ_=>by kernel_rfl
 exact Ky
abbrev yk:=aF 264 Sf GI::aF 249 jj uW::aF 181 Pu rT::aF 163 wx NJ::aF 194 vg kN::aF 193 R2 iN::aF 238 Qc pO::aF 147 yn Jq::aF 34 vt rM::aF 33 Qf iM::yy
theorem Qs:AD yk:=by
 iterate 10 refine eR rfl ?_ λ_=>by kernel_rfl
 exact S2
abbrev A7:=aF 225 Yw lJ::aF 224 Pa gZ::aF 267 ja nP::aF 169 Pm JQ::aF 201 ig mO::aF 251 ig pT::aF 252 ig nR::aF 223 Rq lD::aF 266 Np rL::aF 265 jj AZ::yk
theorem Yy:AD A7:=by
 iterate 10 refine eR rfl ?_ λ_=>by kernel_rfl
 exact Qs
abbrev wb:=aF 213 vg gK::aF 217 K3 jL::aF 260 Ij GE::aF 215 Is dZ::aF 214 Wh fY::aF 24 CL Jt::aF 139 vz CF::aF 151 w6 BN::aF 159 xg Jp::aF 180 xg mH::A7
theorem Na:AD wb:=by
 iterate 10 refine eR rfl ?_ λ_=>by kernel_rfl
 exact Yy
abbrev vn:=aF 75 uc JM::aF 176 Lt fM::aF 184 vp pI::aF 167 I9 lA::aF 154 we gM::aF 170 we hW::aF 216 N7 eO::aF 259 U0 sH::aF 258 Lx pF::aF 257 Ug GM::wb
theorem Kc:AD vn:=by
 iterate 10 refine eR rfl ?_ λ_=>by kernel_rfl
 exact Na
abbrev yj:=aF 168 Rl lH::aF 143 vz CN::aF 156 w6 AY::aF 174 JDq AH::aF 209 P5 uT::aF 175 V9 CB::aF 210 P7 nS::aF 211 Ui WO::aF 256 Xg NP::aF 212 Ux BX::vn
theorem Sd:AD yj:=by
 iterate 10 refine eR rfl ?_ λ_=>by kernel_rfl
 exact Kc
abbrev yd:=aF 253 Rg uU::aF 287 Ri uV::aF 206 Tb mN::aF 254 jd NR::aF 205 Oa MV::aF 171 T0 GP::aF 203 xc AR::aF 202 Sj pK::aF 76 ua pE::aF 153 S4 rQ::yj
theorem Sq:AD yd:=by
 iterate 10 refine eR rfl ?_ λ_=>by kernel_rfl
 exact Sd
abbrev wy:=aF 274 O6 TH::aF 232 Oo AS::aF 142 im BW::aF 155 O8 pL::aF 173 Xd rZ::aF 208 Rz BM::aF 255 Ke iK::aF 172 R5 TJ::aF 207 jd mF::aF 204 Vi sC::yd
theorem N2:AD wy:=by
 iterate 10 refine eR rfl ?_ λ_=>by kernel_rfl
 exact Sq
abbrev wo:=aF 235 Il uL::aF 276 Tt CG::aF 237 M8 ND::aF 233 Vz NQ::aF 234 Pk xO::aF 191 Ns pH::aF 189 Wz mJ::aF 190 Ae CC::aF 231 T3 xY::aF 275 vk SV::wy
theorem It:AD wo:=by
 iterate 10 refine eR rfl ?_ λ_=>by kernel_rfl
 exact N2
abbrev x7:=aF 291 Rr SZ::aF 84 JA2 cV::aF 183 Mk SW::aF 227 Kv SQ::aF 161 Nh SY::aF 188 Tp NN::aF 162 u9 fN::aF 192 Mq gL::aF 236 Vr uO::aF 277 JCK AJ::wo
theorem Rp:AD x7:=by
 iterate 10 refine eR rfl ?_ λ_=>by kernel_rfl
 exact It
abbrev yx:=aF 272 Tg WF::aF 292 O1 TD::aF 295 O9 ij::aF 273 Qh CD::aF 187 Tm sE::aF 230 I1 rU::aF 185 Sg BV::aF 228 Xt CM::aF 271 Km MT::aF 270 Ve WN::x7
theorem Qw:AD yx:=by
 iterate 10 refine eR rfl ?_ λ_=>by kernel_rfl
 exact Rp
abbrev zn:=aF 198 Xy CH::aF 144 yn uQ::aF 146 Nc BB::aF 160 im lE::aF 182 Mx rN::aF 226 M0 rO::aF 268 Ts uN::aF 269 L8 uM::aF 186 Nm BE::aF 229 M2 AT::yx
theorem X0:AD zn:=by
 iterate 10 refine eR rfl ?_ λ_=>by kernel_rfl
 exact Qw
abbrev XD:=aF 284 W9 WS::aF 245 X4 XA::aF 282 Pt NI::aF 165 Vx WX::aF 199 uj GD::aF 250 jd mF::zn
theorem yq:AD XD:=by
 iterate 6 refine eR rfl ?_ λ_=>by kernel_rfl
 exact X0
theorem Tk(r x):onO (gN g_ref09_closed x) (λy=>lO (TG.of (aF 285 g_ref09_closed r::XD)) it y.1 y.2 (hM g_ref09_closed))=GL r x:=by kernel_rfl
abbrev Ah:=aF 285 g_ref09_closed yb::XD
theorem T9:AD Ah:=⟨YS (fn:=it) (l:=XD) rfl (yq) rfl Tk 1100,yq⟩
abbrev yt:=aF 279 Ae VZ::aF 240 u9 sB::aF 246 yz sG::aF 283 Lu AO::aF 248 vp SM::aF 286 wg WH::aF 242 wx NB::aF 243 Og MZ::aF 281 U3 xV::aF 247 uj TN::Ah
theorem Uz:AD yt:=by
 iterate 10 refine eR rfl ?_ λ_=>by kernel_rfl
 exact T9
abbrev xv:=aF 200 Nb lC::aF 164 sw AK::aF 197 im pU::aF 196 Wo uY::aF 195 yz rJ::aF 239 Xj uX::aF 278 Wa GN::aF 244 L9 NF::aF 241 Rm pR::aF 280 Vv WZ::yt
theorem Nl:AD xv:=by
 iterate 10 refine eR rfl ?_ λ_=>by kernel_rfl
 exact Uz
abbrev xx:=aF 178 Ro mL::aF 218 xc BI::aF 219 Sv rR::aF 44 x8 sD::aF 77 ug pG::aF 42 wz xM::aF 177 K7 TF::aF 141 n3 CO::aF 152 sw AM::aF 166 Od AU::xv
theorem Qz:AD xx:=by
 iterate 10 refine eR rfl ?_ λ_=>by kernel_rfl
 exact Nl
abbrev ya:=aF 263 R4 WJ::aF 290 vk SX::aF 294 jj AZ::aF 220 Oi xR::aF 50 Tx xW::aF 86 Y5 uZ::aF 85 Zo Jh::aF 87 Zr pV::aF 48 Xh nT::aF 157 Sb BO::xx
theorem P6:AD ya:=by
 iterate 10 refine eR rfl ?_ λ_=>by kernel_rfl
 exact Qz
abbrev Aq:=aF 221 xm CI::aF 262 Nt BJ::aF 289 Qa kL::aF 261 xm CE::aF 288 Uc CA::aF 293 Vc uS::aF 296 T6 WD::aF 299 Y7 NU::aF 298 Zn sK::aF 297 Uk BZ::ya
theorem Xc:AD Aq:=by
 iterate 10 refine eR rfl ?_ λ_=>by kernel_rfl
 exact P6
abbrev ue:=aF 11 JC4 AI::aF 32 Zb CS::aF 66 Zi CP::aF 99 L7 AN::aF 124 n3 CR::aF 140 Zq pW::aF 145 n3 CT::aF 158 wj MW::aF 179 wj xS::aF 222 Q1 BQ::Aq
theorem JDr:AD ue:=by
 iterate 10 refine eR rfl ?_ λ_=>by kernel_rfl
 exact Xc
abbrev zv:=aF 58 yc xZ::aF 56 CL WB::aF 28 Ba NT::ue
theorem Ur:AD zv:=by
 iterate 3 refine eR rfl ?_ λ_=>by kernel_rfl
 exact JDr
abbrev H5:=aF 60 J8S n7::zv
theorem J8H:AD H5:=⟨JLv rfl,Ur⟩
abbrev H0:=bZ 61 J8r NZ::H5
theorem J8s:AD H0:=⟨JJX (t:=t_api_Entry) (N:=J7y) rfl,J8H⟩
abbrev XM:=bZ 128 g_slices_swapRangeCmpFunc_api_Entry__0 J92::bZ 149 g_slices_swapRangeCmpFunc_api_Entry__0 J89::bZ 110 J73 J78::bZ 53 Ye NS::aF 55 J6O XO::aF 91 J7i XN::bZ 51 Zf XG::H0
theorem H2:AD XM:=by
 iterate 4 refine m4 rfl ?_ λ_=>by kernel_rfl
 iterate 2 refine eR rfl ?_ λ_=>by kernel_rfl
 refine m4 rfl ?_ λ_=>by kernel_rfl
 exact J8s
theorem J8t(r x):onO (gN g_slices_swapRangeCmpFunc_api_Entry__0 x) (λy=>lO (TG.of (bZ 111 g_slices_swapRangeCmpFunc_api_Entry__0 r::XM)) n5 y.1 y.2 (hM g_slices_swapRangeCmpFunc_api_Entry__0))=H4 r x:=by kernel_rfl
abbrev Hz:=bZ 111 g_slices_swapRangeCmpFunc_api_Entry__0 J8q::XM
theorem J8v:AD Hz:=⟨Fc (fn:=n5) (l:=XM) rfl (H2) J8t 100,H2⟩
abbrev Y0:=aF 8 Yg XJ::aF 25 R7 NM::aF 20 Ir MS::aF 54 Ba NY::aF 22 Iu GA::bZ 57 J66 n8::bZ 92 J9f J9e::Hz
theorem Yl:AD Y0:=by
 iterate 5 refine eR rfl ?_ λ_=>by kernel_rfl
 iterate 2 refine m4 rfl ?_ λ_=>by kernel_rfl
 exact J8v
end
end Go.Am
end
section
namespace Go.Proofs
open Go.Shelf Go.RowKit
def Tryz.ρA:Ren where
 f:=fun
  |99=>79
  |166=>37
  |169=>41
  |206=>104
  |240=>71
  |276=>101
  |167=>102
  |n=>n
 t:=fun
  |9=>9
  |3=>3
  |4=>4
  |20=>20
  |0=>0
  |46=>149
  |5=>5
  |72=>87
  |76=>90
  |51=>121
  |53=>164
  |70=>85
  |37=>22
  |75=>89
  |127=>126
  |164=>161
  |80=>94
  |n=>n
 g:=λn=>n
theorem Tryz.laysWS:Lays.n166 Tryz.prog Tryz.ρA where
 mixed:=by kernel_rfl
 f166:=by kernel_rfl
 f240:=by kernel_rfl
 f276:=by kernel_rfl
 t0:=Tryz.underlying0
 a0:=Tryz.isAgg0
 z0:=Tryz.sizeOf0
 v0:=Tryz.zeroValue0
 t3:=Tryz.underlying3
 a3:=Tryz.isAgg3
 z3:=Tryz.sizeOf3
 v3:=Tryz.zeroValue3
 t4:=Tryz.underlying4
 a4:=Tryz.isAgg4
 z4:=Tryz.sizeOf4
 v4:=Tryz.zeroValue4
 t9:=Tryz.underlying9
 a9:=Tryz.isAgg9
 z9:=Tryz.sizeOf9
 v9:=Tryz.zeroValue9
 t20:=Tryz.underlying20
 a20:=Tryz.isAgg20
 z20:=Tryz.sizeOf20
 v20:=Tryz.zeroValue20
 t37:=Tryz.underlying22
 a37:=Tryz.isAgg22
 z37:=Tryz.sizeOf22
 v37:=Tryz.zeroValue22
 t70:=Tryz.underlying85
 a70:=Tryz.isAgg85
 z70:=Tryz.sizeOf85
 v70:=Tryz.zeroValue85
 t72:=Tryz.underlying87
 a72:=Tryz.isAgg87
 z72:=Tryz.sizeOf87
 v72:=Tryz.zeroValue87
 t75:=Tryz.underlying89
 a75:=Tryz.isAgg89
 z75:=Tryz.sizeOf89
 v75:=Tryz.zeroValue89
 t164:=Tryz.underlying161
 a164:=Tryz.isAgg161
 z164:=Tryz.sizeOf161
 v164:=Tryz.zeroValue161
theorem Tryz.laysST:Lays.n169 Tryz.prog Tryz.ρA where
 mixed:=by kernel_rfl
 f169:=by kernel_rfl
 t0:=Tryz.underlying0
 a0:=Tryz.isAgg0
 z0:=Tryz.sizeOf0
 v0:=Tryz.zeroValue0
 t3:=Tryz.underlying3
 a3:=Tryz.isAgg3
 z3:=Tryz.sizeOf3
 v3:=Tryz.zeroValue3
 t9:=Tryz.underlying9
 a9:=Tryz.isAgg9
 z9:=Tryz.sizeOf9
 v9:=Tryz.zeroValue9
 t37:=Tryz.underlying22
 a37:=Tryz.isAgg22
 z37:=Tryz.sizeOf22
 v37:=Tryz.zeroValue22
 t70:=Tryz.underlying85
 a70:=Tryz.isAgg85
 z70:=Tryz.sizeOf85
 v70:=Tryz.zeroValue85
 t72:=Tryz.underlying87
 a72:=Tryz.isAgg87
 z72:=Tryz.sizeOf87
 v72:=Tryz.zeroValue87
 t127:=Tryz.underlying126
 a127:=Tryz.isAgg126
 z127:=Tryz.sizeOf126
 v127:=Tryz.zeroValue126
theorem Tryz.laysWB:Lays.n167 Tryz.prog Tryz.ρA where
 mixed:=by kernel_rfl
 f167:=by kernel_rfl
 f240:=by kernel_rfl
 f276:=by kernel_rfl
 t0:=Tryz.underlying0
 a0:=Tryz.isAgg0
 z0:=Tryz.sizeOf0
 v0:=Tryz.zeroValue0
 t4:=Tryz.underlying4
 a4:=Tryz.isAgg4
 z4:=Tryz.sizeOf4
 v4:=Tryz.zeroValue4
 t5:=Tryz.underlying5
 a5:=Tryz.isAgg5
 z5:=Tryz.sizeOf5
 v5:=Tryz.zeroValue5
 t9:=Tryz.underlying9
 a9:=Tryz.isAgg9
 z9:=Tryz.sizeOf9
 v9:=Tryz.zeroValue9
 t20:=Tryz.underlying20
 a20:=Tryz.isAgg20
 z20:=Tryz.sizeOf20
 v20:=Tryz.zeroValue20
 t37:=Tryz.underlying22
 a37:=Tryz.isAgg22
 z37:=Tryz.sizeOf22
 v37:=Tryz.zeroValue22
 t70:=Tryz.underlying85
 a70:=Tryz.isAgg85
 z70:=Tryz.sizeOf85
 v70:=Tryz.zeroValue85
 t72:=Tryz.underlying87
 a72:=Tryz.isAgg87
 z72:=Tryz.sizeOf87
 v72:=Tryz.zeroValue87
 t75:=Tryz.underlying89
 a75:=Tryz.isAgg89
 z75:=Tryz.sizeOf89
 v75:=Tryz.zeroValue89
 t164:=Tryz.underlying161
 a164:=Tryz.isAgg161
 z164:=Tryz.sizeOf161
 v164:=Tryz.zeroValue161
theorem Tryz.extraRep:Builder.Extra Tryz.prog Tryz.ρA where
 sizeBuilder:=by kernel_rfl
 liesBuilder:=by kernel_rfl
 t5:=Tryz.underlying5
 a5:=Tryz.isAgg5
 z5:=Tryz.sizeOf5
 v5:=Tryz.zeroValue5
 infoByte:=by kernel_rfl
 cellsByte:=by kernel_rfl
 sizeByte:=by kernel_rfl
 neB5:=by decide
theorem Tryz.WriteByte(B b:Nat)(g:List Value)(c:Int)(w:World)(h:Lib.IsBuilder 87 5 B b g w)(hlen:g.length+1<=140737488355328)(j:B<=w.heap.size):
  Calls Tryz.prog 102 #[.pointer (some ⟨b,0,none⟩),.int .u8 c] w λe w'=>e=.returned .nilIface/\(Lib.BuilderAt 87 5 B b (.pointer (some ⟨b,0,none⟩)) (g++[.int .u8 c]) w'/\Below B w w'):=
 Any.Builder_WriteByte Tryz.laysWB Tryz.extraRep B b g c w h hlen j
theorem Tryz.WriteString(B b:Nat)(g:List Value)(s:ByteArray)(w:World)(h:Lib.IsBuilder 87 5 B b g w)(hlen:g.length+s.size<=140737488355328)(j:B<=w.heap.size):
  Calls Tryz.prog 37 #[.pointer (some ⟨b,0,none⟩),.string s] w λe w'=>e=.returned (.tuple #[.int .i64 s.size,.nilIface])/\(Lib.BuilderAt 87 5 B b (.pointer (some ⟨b,0,none⟩)) (g++Lib.strCells s) w'/\Below B w w'):=
 Any.Builder_WriteString Tryz.laysWS Tryz.extraRep B b g s w h hlen j
theorem Tryz.String(B b:Nat)(l:List UInt8)(w:World)(h:Lib.IsBuilder 87 5 B b (Lib.byteCells l) w)(g:B<=w.heap.size):
  Calls Tryz.prog 41 #[.pointer (some ⟨b,0,none⟩)] w λe w'=>e=.returned (.string ⟨l.toArray⟩)/\Below B w w':=
 Any.Builder_String_any Tryz.laysST Tryz.extraRep B b l w h g
theorem Tn(l:List UInt8)(n:Int)(k:Nat):Lib.byteCells (l++Am.J0h n k)++[.int .u8 (Am.J7b n k)]=Lib.byteCells (l++Am.J0h n (k+1)):=by
 rw[Am.JrA,<-List.append_assoc,Lib.byteCells_append (l++Am.J0h n k)]
 congr 1
 show [Value.int .u8 _]=[Value.int .u8 ((UInt8.ofNat (Am.J7b n k).toNat).toNat:Int)];rw[Am.Job]
set_option maxHeartbeats 6400000 in
set_option maxRecDepth 100000 in
theorem Tryz.put(s:ByteArray)(n:Int)(k:Nat)(hk:1<=k)(C:k<=8)(hs:s.size+8<=140737488355328)(w:World):
  Calls Tryz.prog 72 #[.string s,.int .i64 n,.int .i64 k] w λe w'=>e=.returned (.string ⟨(s.data.toList++Am.J0h n k).toArray⟩)/\Below w.heap.size w w':=by
 have D:s.data.toList.length=s.size:=(Lib.size_eq s).symm;have v:Lib.IsBuilder 87 5 w.heap.size w.heap.size [] (w.alloc (.cells #[.pointer none,.slice none 0 0] 87)):=Lib.fresh_isBuilder 87 5 w;have h:Below w.heap.size w (w.alloc (.cells #[.pointer none,.slice none 0 0] 87)):=(Below.refl _ w).alloc (Nat.le_refl _) _
 go_enter Tryz.func72,Tryz.ntmps72
 go_wp2_with (go_at_call 37;refine(Tryz.WriteString w.heap.size w.heap.size [] s _ v (by simp;omega) h.size).mono ?_)
 rintro e x ⟨rfl,h1,b1⟩;have q:Lib.IsBuilder 87 5 w.heap.size w.heap.size (Lib.byteCells (s.data.toList++Am.J0h n 0)) x:=by rw[List.nil_append,Lib.strCells_eq]at h1;have z:Am.J0h n 0=[]:=rfl;rw[z,List.append_nil];exact Or.inr h1
 have r:=h.trans b1;clear h1 b1 v h
 go_wp2
 go_loopw [19] (λi wr=> ∃j:Nat,j<=k/\i=.int .i64 j/\Lib.IsBuilder 87 5 w.heap.size w.heap.size (Lib.byteCells (s.data.toList++Am.J0h n j)) wr/\Below w.heap.size w wr)
  (λi _=>k-(intOf i).toNat)
 case atStart=>exact⟨0,Nat.zero_le _,rfl,q,r⟩
 case round=>
  obtain⟨j,E,rfl,o,g⟩:=hrel;by_cases B:j<k
  ·go_wp2_with (go_at_call 102;refine(Tryz.WriteByte w.heap.size w.heap.size _ _ _ o (by rw[Lib.byteCells_length,List.length_append,Am.Jx];omega) g.size).mono ?_;rintro e y ⟨rfl,h2,b2⟩)
   have A:Am.J7b n j=IntKind.u64.wrap n/2^(8*j)%256:=by show((IntKind.wrap .u64 n).fdiv (2^(8*j)))%256=_;rw[Int.fdiv_eq_ediv_of_nonneg _ (Int.le_of_lt (Int.pow_pos (by decide)))]
   rw[<-A,Tn]at h2;exact⟨⟨j+1,by omega,by simp,Or.inr h2,g.trans b2⟩,by simp[intOf];omega⟩
  ·obtain rfl:j=k:=by omega
   go_wp2_with (go_at_call 41;refine(Tryz.String w.heap.size w.heap.size _ _ o g.size).mono ?_;rintro e y ⟨rfl,b2⟩)
   go_wp2
   go_ret
   exact⟨rfl,g.trans b2⟩
theorem Tryz.put_out(s:ByteArray)(n k:Int)(hk:k<1\/8<k)(w:World):
  Calls Tryz.prog 72 #[.string s,.int .i64 n,.int .i64 k] w λe w'=>e=.returned (.string s)/\Below w.heap.size w w':=by
 go_enter Tryz.func72,Tryz.ntmps72
 go_wp2
 all_goals (go_ret;exact⟨rfl,Below.refl _ _⟩)
theorem JHM(l:List UInt8):(⟨l.toArray⟩:ByteArray).data.toList=l:=rfl
theorem Mg(args:List Am.AV)(blks:List Am.Blk)(r:Am.Res)(h:Am.JBV args blks=some r):Am.J4p Tryz.prog 72 args blks r:=by
 unfold Am.JBV at h;split at h;rename_i bl l n k;obtain⟨x,e,rfl⟩:=Option.map_eq_some_iff.1 h;unfold Am.Jlr at e;split at e;rename_i hc;injection e with e;subst e;exact Am.JBo (xs:=[.s l,.i .i64 n,.i .i64 k]) (vs:=[.string ⟨l.toArray⟩,.int .i64 n,.int .i64 k]) (v:=.string ⟨l.toArray⟩) ⟨_,Tryz.func72,by decide,by decide⟩ rfl rfl λw=>Tryz.put_out _ n k hc w;rename_i hc;split at e;rename_i h2;injection e with e;subst e;refine Am.JBo (xs:=[.s l,.i .i64 n,.i .i64 k]) (vs:=[.string ⟨l.toArray⟩,.int .i64 n,.int .i64 k]) (v:=.string ⟨(l++Am.J0h n k.toNat).toArray⟩) ⟨_,Tryz.func72,by decide,by decide⟩ rfl rfl λw=>?_;have g:=Tryz.put ⟨l.toArray⟩ n k.toNat (by omega) (by omega) (by rw[Lib.size_eq];exact h2) w;rw[JHM,show((k.toNat:Nat):Int)=k by omega]at g;exact g;cases e;cases h
end Go.Proofs
end
section
namespace Go.Proofs
open Go.Shelf Go.RowKit Go.Lib Go.Sort
def Tryz.ρS:Ren where
 f:=fun
  |6=>61
  |14=>94
  |15=>95
  |20=>110
  |21=>112
  |22=>113
  |23=>114
  |24=>115
  |25=>116
  |26=>117
  |27=>118
  |28=>119
  |29=>120
  |46=>129
  |47=>130
  |48=>131
  |49=>132
  |50=>133
  |57=>150
  |n=>n
 t:=fun
  |0=>0
  |3=>3
  |4=>4
  |5=>5
  |9=>9
  |22=>26
  |24=>52
  |25=>61
  |39=>149
  |45=>168
  |46=>169
  |50=>173
  |53=>121
  |55=>164
  |66=>193
  |70=>197
  |76=>213
  |77=>214
  |n=>n
 g:=λn=>n
set_option maxRecDepth 100000 in
theorem Tryz.laysSort:SlLaysF0.n6 Tryz.prog Tryz.ρS where
 mixed:=by kernel_rfl
 f6:=⟨"slices.SortFunc[[]pagemend/api.Entry,pagemend/api.Entry]",by decide,by kernel_rfl⟩
 f14:=⟨"slices.pdqsortCmpFunc[pagemend/api.Entry]",by decide,by kernel_rfl⟩
 f15:=by kernel_rfl
 f20:=⟨"slices.insertionSortCmpFunc[pagemend/api.Entry]",by decide,by kernel_rfl⟩
 f21:=⟨"slices.heapSortCmpFunc[pagemend/api.Entry]",by decide,by kernel_rfl⟩
 f22:=⟨"slices.breakPatternsCmpFunc[pagemend/api.Entry]",by decide,by kernel_rfl⟩
 f23:=⟨"slices.choosePivotCmpFunc[pagemend/api.Entry]",by decide,by kernel_rfl⟩
 f24:=⟨"slices.reverseRangeCmpFunc[pagemend/api.Entry]",by decide,by kernel_rfl⟩
 f25:=⟨"slices.partialInsertionSortCmpFunc[pagemend/api.Entry]",by decide,by kernel_rfl⟩
 f26:=⟨"slices.partitionEqualCmpFunc[pagemend/api.Entry]",by decide,by kernel_rfl⟩
 f27:=⟨"slices.partitionCmpFunc[pagemend/api.Entry]",by decide,by kernel_rfl⟩
 f28:=by kernel_rfl
 f29:=by kernel_rfl
 f46:=⟨"slices.siftDownCmpFunc[pagemend/api.Entry]",by decide,by kernel_rfl⟩
 f47:=by kernel_rfl
 f48:=by kernel_rfl
 f49:=⟨"slices.medianAdjacentCmpFunc[pagemend/api.Entry]",by decide,by kernel_rfl⟩
 f50:=⟨"slices.medianCmpFunc[pagemend/api.Entry]",by decide,by kernel_rfl⟩
 f57:=⟨"slices.order2CmpFunc[pagemend/api.Entry]",by decide,by kernel_rfl⟩
 t0:=Tryz.underlying0
 a0:=Tryz.isAgg0
 z0:=Tryz.sizeOf0
 v0:=Tryz.zeroValue0
 t3:=Tryz.underlying3
 a3:=Tryz.isAgg3
 z3:=Tryz.sizeOf3
 v3:=Tryz.zeroValue3
 t4:=Tryz.underlying4
 a4:=Tryz.isAgg4
 z4:=Tryz.sizeOf4
 v4:=Tryz.zeroValue4
 t5:=Tryz.underlying5
 a5:=Tryz.isAgg5
 z5:=Tryz.sizeOf5
 v5:=Tryz.zeroValue5
 t9:=Tryz.underlying9
 a9:=Tryz.isAgg9
 z9:=Tryz.sizeOf9
 v9:=Tryz.zeroValue9
 t22:=Tryz.underlying26
 a22:=Tryz.isAgg26
 z22:=Tryz.sizeOf26
 v22:=Tryz.zeroValue26
 t25:=Tryz.underlying61
 a25:=Tryz.isAgg61
 z25:=Tryz.sizeOf61
 v25:=Tryz.zeroValue61
 t39:=Tryz.underlying149
 a39:=Tryz.isAgg149
 z39:=Tryz.sizeOf149
 v39:=Tryz.zeroValue149
 t45:=Tryz.underlying168
 a45:=Tryz.isAgg168
 z45:=Tryz.sizeOf168
 v45:=Tryz.zeroValue168
 t46:=Tryz.underlying169
 a46:=Tryz.isAgg169
 z46:=Tryz.sizeOf169
 v46:=Tryz.zeroValue169
 t50:=Tryz.underlying173
 a50:=Tryz.isAgg173
 z50:=Tryz.sizeOf173
 v50:=Tryz.zeroValue173
 t53:=Tryz.underlying121
 a53:=Tryz.isAgg121
 z53:=Tryz.sizeOf121
 v53:=Tryz.zeroValue121
 t55:=Tryz.underlying164
 a55:=Tryz.isAgg164
 z55:=Tryz.sizeOf164
 v55:=Tryz.zeroValue164
 t66:=Tryz.underlying193
 a66:=Tryz.isAgg193
 z66:=Tryz.sizeOf193
 v66:=Tryz.zeroValue193
 t70:=Tryz.underlying197
 a70:=Tryz.isAgg197
 z70:=Tryz.sizeOf197
 v70:=Tryz.zeroValue197
 t76:=Tryz.underlying213
 a76:=Tryz.isAgg213
 z76:=Tryz.sizeOf213
 v76:=Tryz.zeroValue213
 t77:=Tryz.underlying214
 a77:=Tryz.isAgg214
 z77:=Tryz.sizeOf214
 v77:=Tryz.zeroValue214
set_option maxHeartbeats 1000000 in
theorem Tryz.nan(x:Int)(W:World):Calls Tryz.prog 93 #[.int .i64 x] W λe w'=>e=.returned (.bool false)/\w'=W:=by
 go_enter Tryz.func93,Tryz.ntmps93
 go_wp2
 all_goals (go_ret;exact⟨by simp,rfl⟩)
set_option maxHeartbeats 2000000 in
theorem Tryz.cmpInt(x y:Int)(W:World):Calls Tryz.prog 59 #[.int .i64 x,.int .i64 y] W λe w'=>e=.returned (.int .i64 (Lib.compareInt x y))/\w'=W:=by
 go_enter Tryz.func59,Tryz.ntmps59
 go_wp2_with (go_at_call 93;refine(Tryz.nan _ _).mono ?_;rintro e w' ⟨rfl,rfl⟩)
 all_goals (go_ret;refine⟨?_,rfl⟩;unfold Lib.compareInt;simp_all;try (rw[if_neg (by omega),if_neg (by omega)]))
set_option maxHeartbeats 2000000 in
theorem Tryz.cmpOr(r o cap:Nat)(x y v:Int)(hv:(if x=0 then y else x)=v)(W:World)(h0:W.cell? ⟨r,o,none⟩=some (.int .i64 x))(h1:W.cell? ⟨r,o+1,none⟩=some (.int .i64 y)):
  Calls Tryz.prog 65 #[.slice (some ⟨r,o,none⟩) 2 cap] W λe w'=>e=.returned (.int .i64 v)/\w'=W:=by
 subst hv
 go_enter Tryz.func65,Tryz.ntmps65
 go_wp2
 by_cases g:x=0
 ·subst g;by_cases h:y=0
  ·subst h;refine wp_loop_rounds 3 ?_;rw[rounds_succ]
   go_wp2
   rw[rounds_succ]
   go_wp2
   rw[rounds_succ]
   go_wp2
   go_ret
   exact⟨rfl,rfl⟩
  ·refine wp_loop_rounds 2 ?_;rw[rounds_succ]
   go_wp2
   rw[rounds_succ]
   go_wp2
   go_ret
   exact⟨rfl,rfl⟩
 ·refine wp_loop_rounds 1 ?_;rw[rounds_succ]
  go_wp2
  go_ret
  exact⟨by simp[g],rfl⟩
def CSt(W:World)(x0 g y0 e:Int)(w':World):Prop:=w'.cell? ⟨W.heap.size,0,none⟩=some (.int .i64 x0)/\w'.cell? ⟨W.heap.size,6,none⟩=some (.int .i64 g)/\w'.cell? ⟨W.heap.size+1,0,none⟩=some (.int .i64 y0)/\w'.cell? ⟨W.heap.size+1,6,none⟩=some (.int .i64 e)/\ ∃n os,w'=grow (W.drewN n) os
theorem SE{w:World}{a:Addr}{v:Value}(h:w.cell? a=some v)(o:Obj):(w.alloc o).cell? a=some v:=by rw[<-h];exact World.cell?_of_block (Below.heap_alloc w o a.block (block_lt_of_cell h))
theorem CSt.alloc{W w:World}{x0 g y0 e:Int}(h:CSt W x0 g y0 e w)(o:Obj):CSt W x0 g y0 e (w.alloc o):=by obtain⟨h1,h2,q,j,n,os,k⟩:=h;exact⟨SE h1 o,SE h2 o,SE q o,SE j o,n,_,by rw[alloc_eq_grow,k,grow_grow]⟩
set_option maxRecDepth 100000 in
set_option maxHeartbeats 4000000 in
theorem Tryz.closS(x y:Am.ET)(W:World):Calls Tryz.prog 30 #[.agg (Am.enT x).toArray,.agg (Am.enT y).toArray] W λe w'=>e=.returned (.int .i64 (Am.Jho x y))/\ ∃q J,w'=grow (W.drewN q) J:=by
 obtain⟨x0,X,x2,x3,x4,Q,⟨k,I,⟨R,O⟩,E,w⟩,C⟩:=x;obtain⟨r,H,S,K,P,M,⟨j,G,⟨L,N⟩,z,F⟩,D⟩:=y;unfold Am.Jho Am.enT;dsimp only;generalize hv:(if Lib.compareInt k j=0 then Lib.compareInt x0 r else Lib.compareInt k j)=v
 go_enter Tryz.func30,Tryz.ntmps30
 go_wp2
 have U: ∀o,o<13-> ∀(A B:Obj),((W.alloc A).alloc B).cell? ⟨W.heap.size,o,none⟩=(W.alloc A).cell? ⟨W.heap.size,o,none⟩:=λo _ A B=>World.cell?_of_block (Below.heap_alloc _ _ _ (by simp));obtain⟨h,g⟩: ∃h,h=(W.alloc (.cells #[.int .i64 x0,.int .i64 X,.int .i64 x2,.int .i64 x3,.int .i64 x4,.int .i64 Q,.int .i64 k,.int .i64 I,.bool R,.string ⟨O.toArray⟩,.bool E,.string ⟨w.toArray⟩,.string ⟨C.toArray⟩] 52)).alloc (.cells #[.int .i64 r,.int .i64 H,.int .i64 S,.int .i64 K,.int .i64 P,.int .i64 M,.int .i64 j,.int .i64 G,.bool L,.string ⟨N.toArray⟩,.bool z,.string ⟨F.toArray⟩,.string ⟨D.toArray⟩] 52):=⟨_,rfl⟩;have c0:h.cell? ⟨W.heap.size,0,none⟩=some (.int .i64 x0):=by rw[g];simp
 have c6:h.cell? ⟨W.heap.size,6,none⟩=some (.int .i64 k):=by rw[g];simp
 have Y:h.cell? ⟨W.heap.size+1,0,none⟩=some (.int .i64 r):=by rw[g];simp
 have V:h.cell? ⟨W.heap.size+1,6,none⟩=some (.int .i64 j):=by rw[g];simp
 have T:h=grow W #[(.cells #[.int .i64 x0,.int .i64 X,.int .i64 x2,.int .i64 x3,.int .i64 x4,.int .i64 Q,.int .i64 k,.int .i64 I,.bool R,.string ⟨O.toArray⟩,.bool E,.string ⟨w.toArray⟩,.string ⟨C.toArray⟩] 52),(.cells #[.int .i64 r,.int .i64 H,.int .i64 S,.int .i64 K,.int .i64 P,.int .i64 M,.int .i64 j,.int .i64 G,.bool L,.string ⟨N.toArray⟩,.bool z,.string ⟨F.toArray⟩,.string ⟨D.toArray⟩] 52)]:=by rw[g,alloc_eq_grow,alloc_eq_grow,grow_grow];rfl
 rw[<-g];clear g U;have hS:CSt W x0 k r j h.drew:=⟨c0,c6,Y,V,1,_,by rw[T];rfl⟩;clear T
 go_region_held3 (λw':World=>w'.cell? ⟨W.heap.size,0,none⟩=some (.int .i64 x0)/\w'.cell? ⟨W.heap.size,6,none⟩=some (.int .i64 k)/\w'.cell? ⟨W.heap.size+1,0,none⟩=some (.int .i64 r)/\w'.cell? ⟨W.heap.size+1,6,none⟩=some (.int .i64 j)/\ ∃n os,w'=grow (W.drewN n) os)
  (first|assumption|exact hS|exact CSt.alloc (by assumption) _)
  (first
   |(go_at_call 59;refine(Tryz.cmpInt _ _ _).mono ?_;rintro e w' ⟨rfl,rfl⟩)
   |(go_at_call 65;refine(Tryz.cmpOr _ _ _ (Lib.compareInt k j) (Lib.compareInt x0 r) v hv _ (by simp) (by simp)).mono ?_;rintro e w' ⟨rfl,rfl⟩))
 all_goals
  rename_i Z;obtain⟨_,_,_,_,n,os,hw⟩:=Z
  go_wp2
  go_ret
  exact⟨rfl,n,os,hw⟩
theorem Tryz.ltS{x y:Am.ET}(hx:Am.J7y x=true)(hy:Am.J7y y=true):ltOf Am.Jho x y=decide (Am.J6I x<Am.J6I y):=by
 unfold Am.J7y at hx hy;unfold ltOf Am.Jho Am.J6I Lib.compareInt;grind
theorem Tryz.swoS:SWO (ltOf Am.Jho) where
 irrefl x:=by unfold ltOf Am.Jho Lib.compareInt;grind
 trans x y z h1 h2:=by unfold ltOf Am.Jho Lib.compareInt at*;grind
 ntrans x y z h1 h2:=by unfold ltOf Am.Jho Lib.compareInt at*;grind
set_option maxHeartbeats 2000000 in
theorem Tryz.ins0(a:Option Addr)(cap:Nat)(g:Value)(w:World):Calls Tryz.prog 110 #[.slice a 0 cap,.int .i64 0,.int .i64 0,g] w λe w'=>e=.returned (.tuple #[])/\w'=w:=by
 go_enter Tryz.func110,Tryz.ntmps110
 go_wp2
 refine wp_loop_rounds 1 ?_;rw[rounds_succ]
 go_wp2
 go_end0
 exact⟨rfl,rfl⟩
set_option maxHeartbeats 2000000 in
theorem Tryz.pdq0(a:Option Addr)(cap:Nat)(g:Int)(h:Value)(w:World):Calls Tryz.prog 94 #[.slice a 0 cap,.int .i64 0,.int .i64 0,.int .i64 g,h] w λe w'=>e=.returned (.tuple #[])/\w'=w:=by
 go_enter Tryz.func94,Tryz.ntmps94
 go_wp2
 refine wp_loop_rounds 1 ?_;rw[rounds_succ]
 go_wp2_with (go_at_call 110;refine(Tryz.ins0 _ _ _ _).mono ?_;rintro e w' ⟨rfl,rfl⟩)
 (try simp only[Exit.inBlock,Exit.then]);refine bodyPost_ret (results_none rfl _ _ _) rfl ?_
 exact⟨rfl,rfl⟩
set_option maxHeartbeats 2000000 in
theorem Tryz.sort0(a:Option Addr)(cap:Nat)(h:Value)(w:World):Calls Tryz.prog 61 #[.slice a 0 cap,h] w λe w'=>e=.returned (.tuple #[])/\w'=w:=by
 have g:=Any.bits_Len (SlLaysF0.n15.bits (P:=Tryz.prog) (ρ:=Tryz.ρS) {Tryz.laysSort with}) 0 w (by omega) (by omega);change Calls Tryz.prog 95 _ _ _ at g
 go_enter Tryz.func61,Tryz.ntmps61
 go_wp2_with (first|(go_at_call 95;refine g.mono ?_;rintro e w' ⟨rfl,rfl⟩)|(go_at_call 94;refine(Tryz.pdq0 _ _ _ _ _).mono ?_;rintro e w' ⟨rfl,rfl⟩))
 go_end0
 exact⟨rfl,rfl⟩
theorem J85(args:List Am.AV)(blks:List Am.Blk)(r:Am.Res)(h:Am.Jkq 13 30 (Am.JfC Am.t_api_Entry Am.J7y) (Am.cel Am.t_api_Entry) Am.J6I args blks=some r):Am.J4p Tryz.prog 61 args blks r:=by
 have E: ∀args w,(callFunc 30 args).run Tryz.prog w=.ok (.enter 30 args) w:=enters_of Tryz.func30 (by kernel_rfl) rfl;refine Am.JFT (α:=Am.ET) (enc:=Am.enT) (N:=λx=>Am.J7y x=true) ⟨_,Tryz.func61,by decide,by decide⟩ (by decide) (λrow x h=>(Am.Jrt h).1) (λrow x h=>(Am.Jrt h).2) (λx=>rfl) (λx=>rfl)
  (λa cap w=>Tryz.sort0 a cap _ w)
  (λblk cap d w G F H o=>?_) args blks r h
 refine(AnyQ.slices_SortFunc Tryz.laysSort 13 Tryz.isAgg52 Tryz.sizeOf52 Am.enT (λ_=>rfl) (λx v D=>by simp[Am.enT]at D;rcases D with rfl|rfl|rfl|rfl|rfl|rfl|rfl|rfl|rfl|rfl|rfl|rfl|rfl<;>rfl) Am.Jho Tryz.swoS 30 #[] blk 0 cap d w E (λ_ _ _ _ x y=>Tryz.closS x y _) F H o).mono ?_;rintro e w' ⟨h1,g,n,os,k,z,J⟩;refine⟨h1,g,n,os,k,?_,J⟩;have C: ∀i,i<d.size->Am.J7y g[i]! =true:=λi hi=>by
  have o:=k.1;have h2:g[i]! ∈(g.extract 0 d.size).toList:=by rw[show d.size=g.size from o.symm,Array.extract_size,getElem!_pos g i (by omega)];exact Array.mem_toList_iff.2 (Array.getElem_mem _)
  have B:=k.2.2.mem_iff.1 h2;rw[Array.extract_size]at B;exact G _ (Array.mem_toList_iff.1 B)
 intro i j I K A;have q:=z i j I K A;rw[Tryz.ltS (C j A) (C i (by omega))]at q;exact q
end Go.Proofs
end
section
namespace Go.Proofs
open Go.Shelf Go.RowKit Go.Lib Go.Sort
def Tryz.ρC:Ren where
 f:=fun
  |43=>60
  |n=>n
 t:=fun
  |0=>0
  |3=>3
  |4=>4
  |22=>26
  |23=>52
  |n=>n
 g:=λn=>n
set_option maxRecDepth 100000 in
theorem Tryz.laysC:Am.JG8 Tryz.prog Tryz.ρC where
 mixed:=by kernel_rfl
 f43:=⟨"slices.Compact[[]pagemend/api.Entry,pagemend/api.Entry]",by decide,by kernel_rfl⟩
 t0:=Tryz.underlying0
 a0:=Tryz.isAgg0
 z0:=Tryz.sizeOf0
 v0:=Tryz.zeroValue0
 t3:=Tryz.underlying3
 a3:=Tryz.isAgg3
 z3:=Tryz.sizeOf3
 v3:=Tryz.zeroValue3
 t4:=Tryz.underlying4
 a4:=Tryz.isAgg4
 z4:=Tryz.sizeOf4
 v4:=Tryz.zeroValue4
 t22:=Tryz.underlying26
 a22:=Tryz.isAgg26
 z22:=Tryz.sizeOf26
 v22:=Tryz.zeroValue26
theorem Tryz.cmpE(x y:Am.ET):Am.J1B [.i .i64,.i .i64,.i .i64,.i .i64,.i .i64,.i .i64,.i .i64,.i .i64,.b,.s,.b,.s,.s] (Am.cel Am.t_api_Entry x) (Am.cel Am.t_api_Entry y)=some (Am.eqT Am.t_api_Entry x y):=by obtain⟨x0,X,x2,x3,x4,E,⟨G,r,⟨F,C⟩,k,e⟩,h⟩:=x;obtain⟨I,q,H,v,D,z,⟨A,o,⟨w,B⟩,g,n⟩,j⟩:=y;show Am.J1B _ [.i .i64 x0,.i .i64 X,.i .i64 x2,.i .i64 x3,.i .i64 x4,.i .i64 E,.i .i64 G,.i .i64 r,.b F,.s C,.b k,.s e,.s h] [.i .i64 I,.i .i64 q,.i .i64 H,.i .i64 v,.i .i64 D,.i .i64 z,.i .i64 A,.i .i64 o,.b w,.s B,.b g,.s n,.s j]=_;simp only[Am.J1B,Am.Jht,and_self,if_true,Option.some.injEq];rw[Bool.eq_iff_iff];refine Iff.trans ?_ (Am.J0X (t:=Am.t_api_Entry)).symm;show _↔(x0,X,x2,x3,x4,E,(G,r,(F,C),k,e),h)=(I,q,H,v,D,z,(A,o,(w,B),g,n),j);simp[Prod.ext_iff,and_assoc]
set_option maxRecDepth 100000 in
theorem Tryz.eqE(x y:Am.ET)(w:World):Sem.run Tryz.prog (binOp .eql 52 (.agg (Am.enT x).toArray) (.agg (Am.enT y).toArray)) w=.ok (.bool (Am.eqT Am.t_api_Entry x y)) w/\Sem.run Tryz.prog (binOp .neq 52 (.agg (Am.enT x).toArray) (.agg (Am.enT y).toArray)) w=.ok (.bool (!Am.eqT Am.t_api_Entry x y)) w:=by
 have j:Am.Jaa Tryz.prog 100 52=some [.i .i64,.i .i64,.i .i64,.i .i64,.i .i64,.i .i64,.i .i64,.i .i64,.b,.s,.b,.s,.s]:=by kernel_rfl
 have g:Am.agT Tryz.prog 52=some true:=by kernel_rfl
 have rel: ∀z:Am.ET,Am.JbR ⟨[],⟨λ_=>none,λ_ _=>False⟩,w⟩ (Am.cel Am.t_api_Entry z) (Am.enT z):=λz=>⟨rfl,λi x v n k=>by
  obtain⟨u,e,h⟩:=(Am.J8N (show(Am.cel Am.t_api_Entry z).mapM Am.JcM=some (Am.enT z)from rfl)).2 i x n;rw[k]at e;injection e with e;subst e;exact Am.Jh7 h w _⟩
 have o:=Am.eqK (P:=Tryz.prog) (s:=⟨[],⟨λ_=>none,λ_ _=>False⟩,w⟩) 100 52 _ j 9900 w _ _ _ _ _ (.agg (Am.enT x).toArray) (.agg (Am.enT y).toArray) (Tryz.cmpE x y) (rel x) (rel y) (.inl ⟨g,by simp⟩) (.inl ⟨g,by simp⟩);constructor;simp_all [run_eql_struct];simp_all [run_neq_struct]
theorem J8u(args:List Am.AV)(blks:List Am.Blk)(r:Am.Res)(h:Am.cpP Am.t_api_Entry args blks=some r):Am.J4p Tryz.prog 60 args blks r:=by
 letI:=Am.Jlq Am.t_api_Entry
 letI:=Am.JiV Am.t_api_Entry
 have e: ∀x y:Am.t_api_Entry.D,Am.eqT Am.t_api_Entry x y= @decide (x=y) (Am.JiV Am.t_api_Entry x y):=λx y=>by rw[Bool.eq_iff_iff];exact Am.J0X.trans (decide_eq_true_iff).symm
 refine Am.JKv (α:=Am.t_api_Entry.D) (enc:=Am.enT) (zr:=Am.t_api_Entry.zero) ⟨_,Tryz.func60,by decide,by decide⟩ (by decide) (λrow x h=>(Am.JlC h).symm) (λx=>rfl) (λx=>rfl)
  (λa cap w=>Am.JFY Tryz.laysC a cap w)
  (λblk cap d w j k hc=>Am.JH1 (α:=Am.t_api_Entry.D) Tryz.laysC 13 (by decide) Tryz.isAgg52 Tryz.sizeOf52 Am.enT (λ_=>rfl) (λx v g=>by simp[Am.enT]at g;rcases g with rfl|rfl|rfl|rfl|rfl|rfl|rfl|rfl|rfl|rfl|rfl|rfl|rfl<;>rfl)
   (λx y w=>by rw[<-e];exact(Tryz.eqE x y w).1) (λx y w=>by rw[<-e];exact(Tryz.eqE x y w).2) (λop a b x y w=>run_eqGuard_agg w op 52 a b _ _ (by kernel_rfl)) Am.t_api_Entry.zero Tryz.zeroValue52 blk 0 cap d w j k hc) args blks r h
end Go.Proofs
end
