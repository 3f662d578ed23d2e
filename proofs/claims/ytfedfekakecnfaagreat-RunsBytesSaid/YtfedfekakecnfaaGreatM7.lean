/-
  Parts of a proof.
-/
import Derived.Shelf.Strings.Builder1
import Derived.Shelf.Lays
import Derived.Test.YtfedfekakecnfaaGreatProg
import Derived.Lib.Agree
import Derived.KernelRfl
import Derived.WalkKit
import Derived.BigCall
import Derived.Test.YtfedfekakecnfaaGreatM2
import Derived.Test.YtfedfekakecnfaaGreatM3
import Derived.Test.YtfedfekakecnfaaGreatM4
import Derived.Test.YtfedfekakecnfaaGreatM6
set_option linter.unusedSimpArgs false
set_option linter.unusedVariables false
section
namespace Go.Am
set_option maxRecDepth 20000
set_option maxHeartbeats 4000000
noncomputable section
theorem Z9{i g S l f}(hf: ∀p,tK p i=some (.fn (aK f)))(A:AE l)(q: ∀x,onO (jP g x) (λy=>pJ (TG.of l) f y.1 y.2 (jS g))=S x):AE (kN i g S::l):=λp=>⟨JK4 (hf p) (A p) q,A p⟩
theorem Ws(r x):onO (jP g_draw_Codes_Next x) (λy=>pJ (TG.of (aF 21 g_draw_Codes_Next r::[])) ko y.1 y.2 (jS g_draw_Codes_Next))=DU r x:=by kernel_rfl
abbrev xf:=aF 21 g_draw_Codes_Next Jc::[]
theorem Wn:AE xf:=λp=>⟨WY (fn:=ko) (l:=[]) rfl (ae0 p) rfl Ws 100,ae0 p⟩
abbrev xi:=aF 109 Wl zM::aF 108 Wh kL::aF 105 Xe gY::aF 106 H7 vJ::aF 107 Ry sS::aF 126 R3 zH::aF 127 Xu zT::aF 88 Sb oT::aF 10 JB1 sI::aF 15 Yb VQ::xf
theorem Xf:AE xi:=by
 iterate 10 refine zU (λ_=>rfl) ?_ λ_=>by kernel_rfl
 exact Wn
abbrev sr:=aF 19 Lo iT::kN 53 Xd DY::kN 51 Xq DW::aF 90 Tq KT::aF 30 S3 DN::aF 65 Le yP::aF 59 Ww sX::aF 93 V1 DQ::aF 52 Nk mX::aF 89 Ov Nx::xi
theorem sg:AE sr:=by
 refine zU (λ_=>rfl) ?_ λ_=>by kernel_rfl
 iterate 2 refine Z9 (λ_=>rfl) ?_ λ_=>by kernel_rfl
 iterate 7 refine zU (λ_=>rfl) ?_ λ_=>by kernel_rfl
 exact Xf
abbrev rk:=aF 72 Ek eP::sr
theorem D4:AE rk:=λp=>⟨JHs rfl,sg p⟩
abbrev rj:=aF 39 F2 vI::rk
theorem qz:AE rj:=by
 refine zU (λ_=>rfl) ?_ λ_=>by kernel_rfl
 exact D4
abbrev tz:=aF 38 Mk kI::aF 73 D1 DE::aF 103 Xv VR::rj
theorem s5:AE tz:=by
 iterate 3 refine zU (λ_=>rfl) ?_ λ_=>by kernel_rfl
 exact qz
abbrev wb:=aF 40 R1 lJ::aF 74 Fs IT::tz
theorem uu:AE wb:=by
 iterate 2 refine zU (λ_=>rfl) ?_ λ_=>by kernel_rfl
 exact s5
noncomputable def BL:PS:=λf=>if f=13 then some (wH cZ sM)else none
theorem M8:tK BL 13=some (.prim (wH cZ sM)):=rfl
def AD(l:List TE):Prop:=tL (AF (tK BL)) l
theorem eT{i g S l f}(hf:tK BL i=some (.fn (aK f)))(A:AD l)(q: ∀x,onO (jP g x) (λy=>pJ (TG.of l) f y.1 y.2 (jS g))=S x)(hs:CB g=true:=by rfl):AD (aF i g S::l):=⟨jg hf A hs q,A⟩
abbrev ud:=aF 13 O8 sM::wb
theorem Nd:AD ud:=⟨JID M8,uu BL⟩
abbrev sa:=aF 135 Dw IR::aF 137 F4 E8::aF 123 Et PP::aF 138 Q7 VE::aF 100 Y7 VT::aF 125 W1 VN::aF 148 Yc KZ::aF 35 V9 JL::aF 70 Xc sY::aF 9 Ml UC::ud
theorem Ga:AD sa:=by
 iterate 10 refine eT rfl ?_ λ_=>by kernel_rfl
 exact Nd
abbrev uz:=aF 67 Qh dS::aF 68 K8 mS::aF 63 P2 JF::aF 96 Nb oO::aF 121 Qa jK::aF 134 Wm gP::aF 97 Qt jL::aF 98 Em PF::aF 122 E4 QF::aF 136 F5 IQ::sa
theorem P1:AD uz:=by
 iterate 10 refine eT rfl ?_ λ_=>by kernel_rfl
 exact Ga
abbrev tx:=aF 264 Pb DI::aF 249 Wa sQ::aF 181 N0 zA::aF 163 Nv KM::aF 194 Hm jM::aF 193 N5 hX::aF 238 Ma oN::aF 147 Rv Jw::aF 34 Gq vG::aF 33 Md lM::uz
theorem Ng:AD tx:=by
 iterate 10 refine eT rfl ?_ λ_=>by kernel_rfl
 exact P1
abbrev xp:=aF 225 Xr tA::aF 224 Lu lN::aF 267 Fu CT::aF 169 Nr eL::aF 201 Qe lQ::aF 251 Uk pF::aF 252 Mz mW::aF 223 On kG::aF 266 Hs qR::aF 265 Lh IY::tx
theorem Xi:AD xp:=by
 iterate 10 refine eT rfl ?_ λ_=>by kernel_rfl
 exact Ng
abbrev tc:=aF 213 Lb gE::aF 217 Gk qS::aF 260 Eo QG::aF 215 Fq fF::aF 214 Tf lK::aF 24 Vp JN::aF 139 L4 UJ::aF 151 Mt TQ::aF 159 M6 JI::aF 180 Po yU::xp
theorem Iq:AD tc:=by
 iterate 10 refine eT rfl ?_ λ_=>by kernel_rfl
 exact Xi
abbrev si:=aF 75 Ej Jx::aF 176 E1 hQ::aF 184 I6 vF::aF 167 Dn oU::aF 154 Hd jN::aF 170 Kq kK::aF 216 Li fG::aF 259 Sg qP::aF 258 E6 oV::aF 257 Rq DL::tc
theorem Dq:AD si:=by
 iterate 10 refine eT rfl ?_ λ_=>by kernel_rfl
 exact Iq
abbrev tv:=aF 168 Of qV::aF 143 Xp VS::aF 156 L9 QJ::aF 174 JCV PG::aF 209 Lz KI::aF 175 T1 VL::aF 210 L1 KL::aF 211 Rs VH::aF 256 U4 KR::aF 212 Sd TJ::si
theorem O9:AD tv:=by
 iterate 10 refine eT rfl ?_ λ_=>by kernel_rfl
 exact Dq
abbrev uo:=aF 253 Pt sN::aF 287 Oc sO::aF 206 Qd lP::aF 254 Uy KU::aF 205 Ll IV::aF 171 Qo DO::aF 203 M2 yV::aF 202 Pf oR::aF 76 Dm qN::aF 153 P4 yW::tv
theorem O1:AD uo:=by
 iterate 10 refine eT rfl ?_ λ_=>by kernel_rfl
 exact O9
abbrev tg:=aF 274 L7 SR::aF 232 Kr yE::aF 142 Oy UG::aF 155 Ls vS::aF 173 Uz zE::aF 208 N2 TD::aF 255 Ds lH::aF 172 N9 TR::aF 207 Kd yJ::aF 204 S4 qO::uo
theorem Is:AD tg:=by
 iterate 10 refine eT rfl ?_ λ_=>by kernel_rfl
 exact O1
abbrev r9:=aF 235 Er CX::aF 276 Q4 TI::aF 237 Io KC::aF 233 Tp UZ::aF 234 Np vP::aF 191 Hv sK::aF 189 Vc lL::aF 190 Vo zC::aF 231 Qr vM::aF 275 Kl PY::tg
theorem Ft:AD r9:=by
 iterate 10 refine eT rfl ?_ λ_=>by kernel_rfl
 exact Is
abbrev uf:=aF 291 Ot TH::aF 84 Ea JR::aF 183 H5 QA::aF 227 F6 QD::aF 161 Ke ST::aF 188 Q0 KG::aF 162 Hc iS::aF 192 Gr mT::aF 236 Tx sR::aF 277 JCk xZ::r9
theorem Om:AD uf:=by
 iterate 10 refine eT rfl ?_ λ_=>by kernel_rfl
 exact Ft
abbrev uy:=aF 272 Qi UD::aF 292 K7 SV::aF 295 Lt eh::aF 273 Mf yS::aF 187 Qw zJ::aF 230 Ed yD::aF 185 Pc yR::aF 228 Wg zP::aF 271 D0 IP::aF 270 Sw VG::uf
theorem Mw:AD uy:=by
 iterate 10 refine eT rfl ?_ λ_=>by kernel_rfl
 exact Om
abbrev wi:=aF 198 Ve zD::aF 144 Q8 sT::aF 146 I9 QL::aF 160 P8 oP::aF 182 Gy yM::aF 226 G2 yO::aF 268 Q3 TP::aF 269 Hh SU::aF 186 Hq yL::aF 229 Hl yF::uy
theorem Vg:AD wi:=by
 iterate 10 refine eT rfl ?_ λ_=>by kernel_rfl
 exact Mw
abbrev VM:=aF 284 Vt UQ::aF 245 V4 VB::aF 282 Nz KJ::aF 165 Tn UV::aF 199 Ev DC::aF 250 I1 CY::wi
theorem u2:AD VM:=by
 iterate 6 refine eT rfl ?_ λ_=>by kernel_rfl
 exact Vg
theorem Qu(r x):onO (jP g_ref09_closed x) (λy=>pJ (TG.of (aF 285 g_ref09_closed r::VM)) fa y.1 y.2 (jS g_ref09_closed))=DK r x:=by kernel_rfl
abbrev vd:=aF 285 g_ref09_closed ui::VM
theorem Rj:AD vd:=⟨WY (fn:=fa) (l:=VM) rfl (u2) rfl Qu 1100,u2⟩
abbrev vm:=aF 279 Ti TN::aF 240 Rt zG::aF 246 T9 zL::aF 283 E3 QC::aF 248 Gi PQ::aF 286 Pi UH::aF 242 G0 KB::aF 243 Ix KA::aF 281 Sj vK::aF 247 N8 TW::vd
theorem Sf:AD vm:=by
 iterate 10 refine eT rfl ?_ λ_=>by kernel_rfl
 exact Rj
abbrev s6:=aF 200 I8 oW::aF 164 JD0 PO::aF 197 V8 zN::aF 196 Uv vT::aF 195 JB2 xY::aF 239 Ui sW::aF 278 T2 DM::aF 244 Hi IU::aF 241 Og vO::aF 280 Tl UY::vm
theorem Hp:AD s6:=by
 iterate 10 refine eT rfl ?_ λ_=>by kernel_rfl
 exact Sf
abbrev uc:=aF 178 Oi yX::aF 218 I2 SX::aF 219 O5 KK::aF 44 Ri oX::aF 77 G9 yH::aF 42 Oj mU::aF 177 G3 SW::aF 141 X5 VW::aF 152 JBf PD::aF 166 Kw PZ::s6
theorem M0:AD uc:=by
 iterate 10 refine eT rfl ?_ λ_=>by kernel_rfl
 exact Hp
abbrev uh:=aF 263 N7 UK::aF 290 K4 QK::aF 294 Ie QH::aF 220 I0 PW::aF 50 Qk vL::aF 86 X0 zQ::aF 85 Yp jO::aF 87 Yt zR::aF 48 U5 pE::aF 157 O7 TT::uc
theorem L0:AD uh:=by
 iterate 10 refine eT rfl ?_ λ_=>by kernel_rfl
 exact M0
abbrev xb:=aF 221 Vm VD::aF 262 Hw SZ::aF 289 L5 sP::aF 261 Oq UI::aF 288 Rm VK::aF 293 Su VI::aF 296 Rf UN::aF 299 X3 KX::aF 298 Yo qZ::aF 297 Rc VJ::uh
theorem Vw:AD xb:=by
 iterate 10 refine eT rfl ?_ λ_=>by kernel_rfl
 exact L0
abbrev q9:=aF 11 JBy xX::aF 32 Yg VP::aF 66 Yj VX::aF 99 Fj PR::aF 124 Y9 VV::aF 140 Yu vU::aF 145 Yy VY::aF 158 Hx SQ::aF 179 Lm SY::aF 222 M3 TY::xb
theorem JCY:AD q9:=by
 iterate 10 refine eT rfl ?_ λ_=>by kernel_rfl
 exact Vw
abbrev u9:=aF 17 R5 zF::aF 49 S1 JT::aF 12 JCs PN::aF 23 Ks QI::aF 27 Ol kH::aF 62 Vy qQ::aF 64 Sq UL::aF 31 Vq mY::aF 36 Yl VU::aF 69 Y2 VZ::q9
theorem Sx:AD u9:=by
 iterate 10 refine eT rfl ?_ λ_=>by kernel_rfl
 exact JCY
abbrev vo:=aF 47 S5 TM::aF 82 X9 LA::aF 83 Yd KY::aF 81 Yw lU::aF 45 Vh KS::aF 78 Ff yB::aF 18 H6 DB::aF 28 X2 KW::aF 14 Qm sV::aF 43 Iz vE::u9
theorem R4:AD vo:=by
 iterate 10 refine eT rfl ?_ λ_=>by kernel_rfl
 exact Sx
abbrev Xt:=aF 3 Wx VO::aF 16 Ox KP::aF 46 Un DP::aF 80 Xk tB::aF 79 Xw kq::aF 104 J99 kv::vo
theorem Wt:AD Xt:=by
 iterate 6 refine eT rfl ?_ λ_=>by kernel_rfl
 exact R4
end
end Go.Am
end
section
namespace Go.Proofs
open Go.Shelf Go.RowKit
def Tryz.ρA:Ren where
 f:=fun
  |99=>79
  |166=>37
  |169=>41
  |206=>104
  |240=>71
  |276=>101
  |167=>102
  |n=>n
 t:=fun
  |9=>9
  |3=>3
  |4=>4
  |20=>20
  |0=>0
  |46=>149
  |5=>5
  |72=>87
  |76=>90
  |51=>121
  |53=>164
  |70=>85
  |37=>22
  |75=>89
  |127=>126
  |164=>161
  |80=>94
  |n=>n
 g:=λn=>n
theorem Tryz.laysWS:Lays.n166 Tryz.prog Tryz.ρA where
 mixed:=by kernel_rfl
 f166:=by kernel_rfl
 f240:=by kernel_rfl
 f276:=by kernel_rfl
 t0:=Tryz.underlying0
 a0:=Tryz.isAgg0
 z0:=Tryz.sizeOf0
 v0:=Tryz.zeroValue0
 t3:=Tryz.underlying3
 a3:=Tryz.isAgg3
 z3:=Tryz.sizeOf3
 v3:=Tryz.zeroValue3
 t4:=Tryz.underlying4
 a4:=Tryz.isAgg4
 z4:=Tryz.sizeOf4
 v4:=Tryz.zeroValue4
 t9:=Tryz.underlying9
 a9:=Tryz.isAgg9
 z9:=Tryz.sizeOf9
 v9:=Tryz.zeroValue9
 t20:=Tryz.underlying20
 a20:=Tryz.isAgg20
 z20:=Tryz.sizeOf20
 v20:=Tryz.zeroValue20
 t37:=Tryz.underlying22
 a37:=Tryz.isAgg22
 z37:=Tryz.sizeOf22
 v37:=Tryz.zeroValue22
 t70:=Tryz.underlying85
 a70:=Tryz.isAgg85
 z70:=Tryz.sizeOf85
 v70:=Tryz.zeroValue85
 t72:=Tryz.underlying87
 a72:=Tryz.isAgg87
 z72:=Tryz.sizeOf87
 v72:=Tryz.zeroValue87
 t75:=Tryz.underlying89
 a75:=Tryz.isAgg89
 z75:=Tryz.sizeOf89
 v75:=Tryz.zeroValue89
 t164:=Tryz.underlying161
 a164:=Tryz.isAgg161
 z164:=Tryz.sizeOf161
 v164:=Tryz.zeroValue161
theorem Tryz.laysST:Lays.n169 Tryz.prog Tryz.ρA where
 mixed:=by kernel_rfl
 f169:=by kernel_rfl
 t0:=Tryz.underlying0
 a0:=Tryz.isAgg0
 z0:=Tryz.sizeOf0
 v0:=Tryz.zeroValue0
 t3:=Tryz.underlying3
 a3:=Tryz.isAgg3
 z3:=Tryz.sizeOf3
 v3:=Tryz.zeroValue3
 t9:=Tryz.underlying9
 a9:=Tryz.isAgg9
 z9:=Tryz.sizeOf9
 v9:=Tryz.zeroValue9
 t37:=Tryz.underlying22
 a37:=Tryz.isAgg22
 z37:=Tryz.sizeOf22
 v37:=Tryz.zeroValue22
 t70:=Tryz.underlying85
 a70:=Tryz.isAgg85
 z70:=Tryz.sizeOf85
 v70:=Tryz.zeroValue85
 t72:=Tryz.underlying87
 a72:=Tryz.isAgg87
 z72:=Tryz.sizeOf87
 v72:=Tryz.zeroValue87
 t127:=Tryz.underlying126
 a127:=Tryz.isAgg126
 z127:=Tryz.sizeOf126
 v127:=Tryz.zeroValue126
theorem Tryz.laysWB:Lays.n167 Tryz.prog Tryz.ρA where
 mixed:=by kernel_rfl
 f167:=by kernel_rfl
 f240:=by kernel_rfl
 f276:=by kernel_rfl
 t0:=Tryz.underlying0
 a0:=Tryz.isAgg0
 z0:=Tryz.sizeOf0
 v0:=Tryz.zeroValue0
 t4:=Tryz.underlying4
 a4:=Tryz.isAgg4
 z4:=Tryz.sizeOf4
 v4:=Tryz.zeroValue4
 t5:=Tryz.underlying5
 a5:=Tryz.isAgg5
 z5:=Tryz.sizeOf5
 v5:=Tryz.zeroValue5
 t9:=Tryz.underlying9
 a9:=Tryz.isAgg9
 z9:=Tryz.sizeOf9
 v9:=Tryz.zeroValue9
 t20:=Tryz.underlying20
 a20:=Tryz.isAgg20
 z20:=Tryz.sizeOf20
 v20:=Tryz.zeroValue20
 t37:=Tryz.underlying22
 a37:=Tryz.isAgg22
 z37:=Tryz.sizeOf22
 v37:=Tryz.zeroValue22
 t70:=Tryz.underlying85
 a70:=Tryz.isAgg85
 z70:=Tryz.sizeOf85
 v70:=Tryz.zeroValue85
 t72:=Tryz.underlying87
 a72:=Tryz.isAgg87
 z72:=Tryz.sizeOf87
 v72:=Tryz.zeroValue87
 t75:=Tryz.underlying89
 a75:=Tryz.isAgg89
 z75:=Tryz.sizeOf89
 v75:=Tryz.zeroValue89
 t164:=Tryz.underlying161
 a164:=Tryz.isAgg161
 z164:=Tryz.sizeOf161
 v164:=Tryz.zeroValue161
theorem Tryz.extraRep:Builder.Extra Tryz.prog Tryz.ρA where
 sizeBuilder:=by kernel_rfl
 liesBuilder:=by kernel_rfl
 t5:=Tryz.underlying5
 a5:=Tryz.isAgg5
 z5:=Tryz.sizeOf5
 v5:=Tryz.zeroValue5
 infoByte:=by kernel_rfl
 cellsByte:=by kernel_rfl
 sizeByte:=by kernel_rfl
 neB5:=by decide
theorem Tryz.WriteByte(B b:Nat)(g:List Value)(c:Int)(w:World)(h:Lib.IsBuilder 87 5 B b g w)(hlen:g.length+1<=140737488355328)(j:B<=w.heap.size):
  Calls Tryz.prog 102 #[.pointer (some ⟨b,0,none⟩),.int .u8 c] w λe w'=>e=.returned .nilIface/\(Lib.BuilderAt 87 5 B b (.pointer (some ⟨b,0,none⟩)) (g++[.int .u8 c]) w'/\Below B w w'):=
 Any.Builder_WriteByte Tryz.laysWB Tryz.extraRep B b g c w h hlen j
theorem Tryz.WriteString(B b:Nat)(g:List Value)(s:ByteArray)(w:World)(h:Lib.IsBuilder 87 5 B b g w)(hlen:g.length+s.size<=140737488355328)(j:B<=w.heap.size):
  Calls Tryz.prog 37 #[.pointer (some ⟨b,0,none⟩),.string s] w λe w'=>e=.returned (.tuple #[.int .i64 s.size,.nilIface])/\(Lib.BuilderAt 87 5 B b (.pointer (some ⟨b,0,none⟩)) (g++Lib.strCells s) w'/\Below B w w'):=
 Any.Builder_WriteString Tryz.laysWS Tryz.extraRep B b g s w h hlen j
theorem Tryz.String(B b:Nat)(l:List UInt8)(w:World)(h:Lib.IsBuilder 87 5 B b (Lib.byteCells l) w)(g:B<=w.heap.size):
  Calls Tryz.prog 41 #[.pointer (some ⟨b,0,none⟩)] w λe w'=>e=.returned (.string ⟨l.toArray⟩)/\Below B w w':=
 Any.Builder_String_any Tryz.laysST Tryz.extraRep B b l w h g
theorem Qx(l:List UInt8)(n:Int)(k:Nat):Lib.byteCells (l++Am.J4g n k)++[.int .u8 (Am.J7O n k)]=Lib.byteCells (l++Am.J4g n (k+1)):=by
 rw[Am.JEo,<-List.append_assoc,Lib.byteCells_append (l++Am.J4g n k)]
 congr 1
 show [Value.int .u8 _]=[Value.int .u8 ((UInt8.ofNat (Am.J7O n k).toNat).toNat:Int)];rw[Am.JCU]
set_option maxHeartbeats 6400000 in
set_option maxRecDepth 100000 in
theorem Tryz.put(s:ByteArray)(n:Int)(k:Nat)(hk:1<=k)(C:k<=8)(hs:s.size+8<=140737488355328)(w:World):
  Calls Tryz.prog 72 #[.string s,.int .i64 n,.int .i64 k] w λe w'=>e=.returned (.string ⟨(s.data.toList++Am.J4g n k).toArray⟩)/\Below w.heap.size w w':=by
 have D:s.data.toList.length=s.size:=(Lib.size_eq s).symm;have o:Lib.IsBuilder 87 5 w.heap.size w.heap.size [] (w.alloc (.cells #[.pointer none,.slice none 0 0] 87)):=Lib.fresh_isBuilder 87 5 w;have h:Below w.heap.size w (w.alloc (.cells #[.pointer none,.slice none 0 0] 87)):=(Below.refl _ w).alloc (Nat.le_refl _) _
 go_enter Tryz.func72,Tryz.ntmps72
 go_wp2_with (go_at_call 37;refine(Tryz.WriteString w.heap.size w.heap.size [] s _ o (by simp;omega) h.size).mono ?_)
 rintro e y ⟨rfl,h1,b1⟩;have r:Lib.IsBuilder 87 5 w.heap.size w.heap.size (Lib.byteCells (s.data.toList++Am.J4g n 0)) y:=by rw[List.nil_append,Lib.strCells_eq]at h1;have x:Am.J4g n 0=[]:=rfl;rw[x,List.append_nil];exact Or.inr h1
 have v:=h.trans b1;clear h1 b1 o h
 go_wp2
 go_loopw [19] (λi wr=> ∃j:Nat,j<=k/\i=.int .i64 j/\Lib.IsBuilder 87 5 w.heap.size w.heap.size (Lib.byteCells (s.data.toList++Am.J4g n j)) wr/\Below w.heap.size w wr)
  (λi _=>k-(intOf i).toNat)
 case atStart=>exact⟨0,Nat.zero_le _,rfl,r,v⟩
 case round=>
  obtain⟨j,E,rfl,q,g⟩:=hrel;by_cases B:j<k
  ·go_wp2_with (go_at_call 102;refine(Tryz.WriteByte w.heap.size w.heap.size _ _ _ q (by rw[Lib.byteCells_length,List.length_append,Am.JyF];omega) g.size).mono ?_;rintro e z ⟨rfl,h2,b2⟩)
   have A:Am.J7O n j=IntKind.u64.wrap n/2^(8*j)%256:=by show((IntKind.wrap .u64 n).fdiv (2^(8*j)))%256=_;rw[Int.fdiv_eq_ediv_of_nonneg _ (Int.le_of_lt (Int.pow_pos (by decide)))]
   rw[<-A,Qx]at h2;exact⟨⟨j+1,by omega,by simp,Or.inr h2,g.trans b2⟩,by simp[intOf];omega⟩
  ·obtain rfl:j=k:=by omega
   go_wp2_with (go_at_call 41;refine(Tryz.String w.heap.size w.heap.size _ _ q g.size).mono ?_;rintro e z ⟨rfl,b2⟩)
   go_wp2
   go_ret
   exact⟨rfl,g.trans b2⟩
theorem Tryz.put_out(s:ByteArray)(n k:Int)(hk:k<1\/8<k)(w:World):
  Calls Tryz.prog 72 #[.string s,.int .i64 n,.int .i64 k] w λe w'=>e=.returned (.string s)/\Below w.heap.size w w':=by
 go_enter Tryz.func72,Tryz.ntmps72
 go_wp2
 all_goals (go_ret;exact⟨rfl,Below.refl _ _⟩)
theorem JGY(l:List UInt8):(⟨l.toArray⟩:ByteArray).data.toList=l:=rfl
theorem H1(args:List Am.AV)(blks:List Am.Blk)(r:Am.Res)(h:Am.JBp args blks=some r):Am.J5W Tryz.prog 72 args blks r:=by
 unfold Am.JBp at h;split at h;rename_i bl l n k;obtain⟨x,e,rfl⟩:=Option.map_eq_some_iff.1 h;unfold Am.JjQ at e;split at e;rename_i j;injection e with e;subst e;exact Am.JAS (xs:=[.s l,.i .i64 n,.i .i64 k]) (vs:=[.string ⟨l.toArray⟩,.int .i64 n,.int .i64 k]) (v:=.string ⟨l.toArray⟩) ⟨_,Tryz.func72,by decide,by decide⟩ rfl rfl λw=>Tryz.put_out _ n k j w;rename_i j;split at e;rename_i h2;injection e with e;subst e;refine Am.JAS (xs:=[.s l,.i .i64 n,.i .i64 k]) (vs:=[.string ⟨l.toArray⟩,.int .i64 n,.int .i64 k]) (v:=.string ⟨(l++Am.J4g n k.toNat).toArray⟩) ⟨_,Tryz.func72,by decide,by decide⟩ rfl rfl λw=>?_;have g:=Tryz.put ⟨l.toArray⟩ n k.toNat (by omega) (by omega) (by rw[Lib.size_eq];exact h2) w;rw[JGY,show((k.toNat:Nat):Int)=k by omega]at g;exact g;cases e;cases h
end Go.Proofs
end
