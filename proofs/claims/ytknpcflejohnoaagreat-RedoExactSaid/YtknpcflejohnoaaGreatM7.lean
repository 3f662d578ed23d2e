/-
  Parts of a proof.
-/
import Derived.Shelf.Strings.Repeat
import Derived.Shelf.Strings.Builder1
import Derived.Shelf.Lays
import Derived.Test.YtknpcflejohnoaaGreatProg
import Derived.Lib.Agree
import Derived.KernelRfl
import Derived.WalkKit
import Derived.BigCall
import Derived.Test.YtknpcflejohnoaaGreatM2
import Derived.Test.YtknpcflejohnoaaGreatM3
import Derived.Test.YtknpcflejohnoaaGreatM4
import Derived.Test.YtknpcflejohnoaaGreatM6
set_option linter.unusedSimpArgs false
set_option linter.unusedVariables false
section
namespace Go.Am
set_option maxRecDepth 20000
set_option maxHeartbeats 4000000
noncomputable section
theorem Xw(r x):onO (mY g_draw_Codes_Next x) (λy=>uK (TG.of (aE 9 g_draw_Codes_Next r::[])) nd y.1 y.2 (oP g_draw_Codes_Next))=FY r x:=by kernel_rfl
abbrev yx:=aE 9 g_draw_Codes_Next J6::[]
theorem Xq:AE yx:=λp=>⟨XT (fn:=nd) (l:=[]) rfl (ae0 p) rfl Xw 100,ae0 p⟩
abbrev uj:=aE 71 F1 FA::aE 94 S1 VK::aE 51 Zf WS::aE 73 Xi WM::aE 104 Yp NF::aE 38 W8 JM::aE 19 X1 WJ::aE 40 Ye NE::aE 37 Xu xF::aE 39 Xl mR::yx
theorem E3:AE uj:=by
 iterate 10 refine eX (λ_=>rfl) ?_ λ_=>by kernel_rfl
 exact Xq
abbrev wn:=aE 44 Q8 Js::aE 63 Om pO::aE 67 Rj mK::aE 89 Xn iY::aE 64 R2 lL::aE 49 Gr tQ::aE 70 Gc wM::aE 92 Hc zO::aE 91 E7 wL::aE 93 Hb Gf::uj
theorem P2:AE wn:=by
 iterate 10 refine eX (λ_=>rfl) ?_ λ_=>by kernel_rfl
 exact E3
abbrev wk:=aE 144 Nr rT::aE 126 Nl MM::aE 156 Io kP::aE 155 P7 iW::aE 198 Nh pN::aE 103 R1 Jw::aE 14 Hq rG::aE 13 Ob kN::aE 32 Rr JB::aE 36 Mq iV::wn
theorem N1:AE wk:=by
 iterate 10 refine eX (λ_=>rfl) ?_ λ_=>by kernel_rfl
 exact P2
abbrev u9:=aE 230 G3 nV::aE 132 O1 JY::aE 163 Ro mP::aE 65 Va jW::aE 66 N9 iI::aE 185 Py lM::aE 229 It rE::aE 228 Mf LY::aE 227 Qk FL::aE 209 W9 uC::wk
theorem F6:AE u9:=by
 iterate 10 refine eX (λ_=>rfl) ?_ λ_=>by kernel_rfl
 exact N1
abbrev ug:=aE 218 Gs FG::aE 110 G0 eB::aE 177 T5 gF::aE 33 V1 JN::aE 95 Nd BE::aE 112 N3 AR::aE 120 O9 Jv::aE 143 Pi mG::aE 187 Yh lQ::aE 186 Mx hO::u9
theorem F8:AE ug:=by
 iterate 10 refine eX (λ_=>rfl) ?_ λ_=>by kernel_rfl
 exact F6
abbrev ve:=aE 147 Lm pT::aE 130 Ey lJ::aE 115 If gR::aE 133 Lq iG::aE 178 Mj fG::aE 217 Tg rN::aE 216 Ge pL::aE 215 Rw FQ::aE 176 Mb gP::aE 179 Hl jU::ug
theorem Ks:AE ve:=by
 iterate 10 refine eX (λ_=>rfl) ?_ λ_=>by kernel_rfl
 exact F8
abbrev vj:=aE 117 M8 zZ::aE 137 JCJ zH::aE 172 M2 tT::aE 138 Ut AO::aE 173 Na nW::aE 174 Ry VN::aE 214 Vv MV::aE 175 Td AK::aE 164 Fv JT::aE 139 Ga fX::ve
theorem Mg:AE vj:=by
 iterate 10 refine eX (λ_=>rfl) ?_ λ_=>by kernel_rfl
 exact Ks
abbrev xl:=aE 169 Rn mO::aE 212 Vq MZ::aE 168 Mm MR::aE 134 Sb FU::aE 165 O6 AP::aE 45 Qo iJ::aE 166 Ex pK::aE 114 Ra rP::aE 131 Pt lP::aE 99 X7 BP::vj
theorem Og:AE xl:=by
 iterate 10 refine eX (λ_=>rfl) ?_ λ_=>by kernel_rfl
 exact Mg
abbrev wy:=aE 98 Qv BA::aE 116 Mv pQ::aE 136 Vr rO::aE 171 Pe AQ::aE 213 E2 iX::aE 135 Qb UU::aE 170 Ld AC::aE 167 Tx rX::aE 211 Po tU::aE 248 Pq tW::xl
theorem Pl:AE wy:=by
 iterate 10 refine eX (λ_=>rfl) ?_ λ_=>by kernel_rfl
 exact Og
abbrev vo:=aE 197 K6 MF::aE 194 Uf MW::aE 46 Oz rS::aE 153 Iw pS::aE 151 Vy mI::aE 152 V0 BI::aE 192 Se wY::aE 236 Kl SE::aE 235 M4 VI::aE 193 L8 zW::wy
theorem M5:AE vo:=by
 iterate 10 refine eX (λ_=>rfl) ?_ λ_=>by kernel_rfl
 exact Pl
abbrev vm:=aE 146 I6 RZ::aE 189 Hd RV::aE 122 Le SC::aE 150 Su MY::aE 123 Ie fY::aE 154 Hr gQ::aE 196 Uq uA::aE 238 JC9 zJ::aE 195 Gu tS::aE 237 Sy AI::vo
theorem Ko:AE vm:=by
 iterate 10 refine eX (λ_=>rfl) ?_ λ_=>by kernel_rfl
 exact M5
abbrev w4:=aE 111 Mw MK::aE 21 Od iK::aE 149 R5 rL::aE 191 Fj rK::aE 148 Ql AZ::aE 190 Wp BF::aE 234 Fb LS::aE 233 Tt VM::aE 256 P0 UT::aE 222 Fg dN::vm
theorem Qs:AE w4:=by
 iterate 10 refine eX (λ_=>rfl) ?_ λ_=>by kernel_rfl
 exact Ko
abbrev wh:=aE 102 K9 AB::aE 121 Rh lN::aE 145 Hy rH::aE 188 Il rI::aE 231 Sx tZ::aE 232 Ii tY::aE 23 Ir pU::aE 48 In tX::aE 69 Rs xB::aE 90 Mp FJ::w4
theorem Mn:AE wh:=by
 iterate 10 refine eX (λ_=>rfl) ?_ λ_=>by kernel_rfl
 exact Qs
abbrev VV:=aE 245 V3 VX::aE 205 V9 WE::aE 243 Nq MJ::aE 128 Ud WB::aE 161 F3 FE::aE 210 Ky FI::aE 160 Wj BJ::aE 100 Th uB::wh
theorem xb:AE VV:=by
 iterate 8 refine eX (λ_=>rfl) ?_ λ_=>by kernel_rfl
 exact Mn
theorem R3(r x):onO (mY g_ref09_closed x) (λy=>uK (TG.of (aE 246 g_ref09_closed r::VV)) i8 y.1 y.2 (oP g_ref09_closed))=FP r x:=by kernel_rfl
abbrev yi:=aE 246 g_ref09_closed wq::VV
theorem Sm:AE yi:=λp=>⟨XT (fn:=i8) (l:=VV) rfl (xb p) rfl R3 1100,xb p⟩
abbrev xc:=aE 240 T8 VS::aE 200 Rz rW::aE 206 U0 rM::aE 244 Gb zN::aE 208 Hk RY::aE 247 Qt VF::aE 202 H0 MC::aE 203 Kv MA::aE 242 T2 wW::aE 207 Qa UY::yi
theorem Tf:AE xc:=by
 iterate 10 refine eX (λ_=>rfl) ?_ λ_=>by kernel_rfl
 exact Sm
abbrev vf:=aE 162 K8 lK::aE 127 JCO zQ::aE 159 W7 pV::aE 158 Vn uG::aE 157 JAV rC::aE 199 U8 uF::aE 239 Uu FT::aE 204 Ij MH::aE 201 Pu pP::aE 241 Ub WD::xc
theorem Iq:AE vf:=by
 iterate 10 refine eX (λ_=>rfl) ?_ λ_=>by kernel_rfl
 exact Tf
abbrev wj:=aE 141 Pw mM::aE 180 K0 zS::aE 181 Q2 rQ::aE 220 Sk AL::aE 249 Ib wO::aE 219 Px wT::aE 140 H5 SF::aE 97 Yv BL::aE 113 JBd zG::aE 129 Lu zX::vf
theorem Oa:AE wj:=by
 iterate 10 refine eX (λ_=>rfl) ?_ λ_=>by kernel_rfl
 exact Iq
abbrev wo:=aE 226 P9 VH::aE 255 L6 SB::aE 258 Kd SA::aE 182 Kx wR::aE 223 R8 FS::aE 251 X9 BQ::aE 250 Y4 JI::aE 252 Zb xG::aE 221 Vw nX::aE 118 Qi AS::wj
theorem M9:AE wo:=by
 iterate 10 refine eX (λ_=>rfl) ?_ λ_=>by kernel_rfl
 exact Oa
abbrev yn:=aE 183 V8 BK::aE 225 Ix zU::aE 254 Nf kO::aE 224 Pz BD::aE 253 Sr AN::aE 257 Tr uE::aE 259 Sh VU::aE 262 Yg NC::aE 261 Y3 sA::aE 260 Tj AM::wo
theorem Wc:AE yn:=by
 iterate 10 refine eX (λ_=>rfl) ?_ λ_=>by kernel_rfl
 exact M9
abbrev u0:=aE 15 G5 wK::aE 8 Yq BR::aE 26 Yx BM::aE 50 Gp zM::aE 72 Zk BO::aE 96 Y6 pW::aE 101 Zn BU::aE 119 Kh MS::aE 142 Mo wQ::aE 184 O7 AU::yn
theorem Gv:AE u0:=by
 iterate 10 refine eX (λ_=>rfl) ?_ λ_=>by kernel_rfl
 exact Wc
abbrev xv:=aE 62 Tl FR::aE 87 To iu::aE 88 Yj WI::aE 7 JAU zL::aE 17 Xt FZ::aE 18 Yz WQ::aE 22 X8 WN::aE 47 Zc WT::aE 68 Zh WR::aE 16 Wq FW::u0
theorem Tz:AE xv:=by
 iterate 10 refine eX (λ_=>rfl) ?_ λ_=>by kernel_rfl
 exact Gv
abbrev xi:=aE 41 Ow MP::aE 55 P4 Nn::aE 77 Ww NB::aE 76 Wy rY::aE 74 Wx jX::aE 75 I7 zT::aE 54 Tb AJ::aE 30 Ug xw::aE 43 S9 VP::xv
theorem Ot:AE xi:=by
 iterate 9 refine eX (λ_=>rfl) ?_ λ_=>by kernel_rfl
 exact Tz
abbrev ul:=aE 58 Fx wJ::xi
theorem Fm:AE ul:=λp=>⟨JHy rfl,Ot p⟩
abbrev va:=aE 61 Fd RX::aE 86 Yk WK::ul
theorem Ew:AE va:=by
 iterate 2 refine eX (λ_=>rfl) ?_ λ_=>by kernel_rfl
 exact Fm
abbrev yo:=aE 60 Xa NA::va
theorem Wu:AE yo:=λp=>⟨JI8 rfl,Ew p⟩
abbrev xz:=aE 27 Wk xE::aE 52 Nk ic::aE 6 Ni VD::aE 20 Mi wP::aE 42 Rm tV::aE 56 Qe FM::aE 78 Kz MQ::aE 57 Hu rF::aE 59 Ya WO::yo
theorem xn:AE xz:=by
 iterate 9 refine eX (λ_=>rfl) ?_ λ_=>by kernel_rfl
 exact Wu
noncomputable def DE:PS:=λf=>if f=10 then some (pgP Jy J8 FH)else none
theorem L2:xT DE 10=some (.prim (pgP Jy J8 FH)):=rfl
def AD(l:List TE):Prop:=yF (AF (xT DE)) l
theorem JLZ{i g S l f}(hf:xT DE i=some (.fn (aL f)))(A:AD l)(q: ∀x,onO (mY g x) (λy=>uK (TG.of l) f y.1 y.2 (oP g))=S x)(hs:DY g=true:=by rfl):AD (aE i g S::l):=⟨lz hf A hs q,A⟩
abbrev vz:=aE 10 Mt FH::xz
theorem Mh:AD vz:=⟨JJ3 L2,xn DE⟩
abbrev X2:=aE 4 Xp WL::aE 25 Oe BB::aE 11 N2 VC::aE 24 H9 ME::aE 12 G2 LU::aE 35 J8N NH::aE 34 Ny ML::vz
theorem Xo:AD X2:=by
 iterate 7 refine JLZ rfl ?_ λ_=>by kernel_rfl
 exact Mh
end
end Go.Am
end
section
namespace Go.Proofs
open Go.Shelf Go.RowKit
def Tryz.ρA:Ren where
 f:=fun
  |105=>60
  |212=>82
  |99=>83
  |165=>84
  |166=>79
  |170=>85
  |169=>81
  |263=>106
  |264=>107
  |206=>108
  |240=>105
  |241=>109
  |276=>124
  |277=>125
  |167=>80
  |n=>n
 t:=fun
  |9=>9
  |3=>3
  |4=>4
  |20=>20
  |0=>0
  |46=>160
  |109=>161
  |5=>5
  |72=>153
  |76=>156
  |51=>129
  |146=>183
  |53=>159
  |148=>185
  |70=>151
  |37=>22
  |75=>155
  |127=>182
  |164=>211
  |80=>98
  |n=>n
 g:=λn=>n
theorem Tryz.laysRep:Lays.n105 Tryz.prog Tryz.ρA where
 mixed:=by kernel_rfl
 f99:=by kernel_rfl
 f105:=by kernel_rfl
 f165:=by kernel_rfl
 f166:=by kernel_rfl
 f169:=by kernel_rfl
 f170:=by kernel_rfl
 f206:=by kernel_rfl
 f212:=by kernel_rfl
 f240:=by kernel_rfl
 f241:=by kernel_rfl
 f263:=by kernel_rfl
 f264:=by kernel_rfl
 f276:=by kernel_rfl
 f277:=by kernel_rfl
 t0:=Tryz.underlying0
 a0:=Tryz.isAgg0
 z0:=Tryz.sizeOf0
 v0:=Tryz.zeroValue0
 t3:=Tryz.underlying3
 a3:=Tryz.isAgg3
 z3:=Tryz.sizeOf3
 v3:=Tryz.zeroValue3
 t4:=Tryz.underlying4
 a4:=Tryz.isAgg4
 z4:=Tryz.sizeOf4
 v4:=Tryz.zeroValue4
 t5:=Tryz.underlying5
 a5:=Tryz.isAgg5
 z5:=Tryz.sizeOf5
 v5:=Tryz.zeroValue5
 t9:=Tryz.underlying9
 a9:=Tryz.isAgg9
 z9:=Tryz.sizeOf9
 v9:=Tryz.zeroValue9
 t20:=Tryz.underlying20
 a20:=Tryz.isAgg20
 z20:=Tryz.sizeOf20
 v20:=Tryz.zeroValue20
 t37:=Tryz.underlying22
 a37:=Tryz.isAgg22
 z37:=Tryz.sizeOf22
 v37:=Tryz.zeroValue22
 t46:=Tryz.underlying160
 a46:=Tryz.isAgg160
 z46:=Tryz.sizeOf160
 v46:=Tryz.zeroValue160
 t51:=Tryz.underlying129
 a51:=Tryz.isAgg129
 z51:=Tryz.sizeOf129
 v51:=Tryz.zeroValue129
 t53:=Tryz.underlying159
 a53:=Tryz.isAgg159
 z53:=Tryz.sizeOf159
 v53:=Tryz.zeroValue159
 t70:=Tryz.underlying151
 a70:=Tryz.isAgg151
 z70:=Tryz.sizeOf151
 v70:=Tryz.zeroValue151
 t72:=Tryz.underlying153
 a72:=Tryz.isAgg153
 z72:=Tryz.sizeOf153
 v72:=Tryz.zeroValue153
 t75:=Tryz.underlying155
 a75:=Tryz.isAgg155
 z75:=Tryz.sizeOf155
 v75:=Tryz.zeroValue155
 t76:=Tryz.underlying156
 a76:=Tryz.isAgg156
 z76:=Tryz.sizeOf156
 v76:=Tryz.zeroValue156
 t109:=Tryz.underlying161
 a109:=Tryz.isAgg161
 z109:=Tryz.sizeOf161
 v109:=Tryz.zeroValue161
 t127:=Tryz.underlying182
 a127:=Tryz.isAgg182
 z127:=Tryz.sizeOf182
 v127:=Tryz.zeroValue182
 t146:=Tryz.underlying183
 a146:=Tryz.isAgg183
 z146:=Tryz.sizeOf183
 v146:=Tryz.zeroValue183
 t148:=Tryz.underlying185
 a148:=Tryz.isAgg185
 z148:=Tryz.sizeOf185
 v148:=Tryz.zeroValue185
 t164:=Tryz.underlying211
 a164:=Tryz.isAgg211
 z164:=Tryz.sizeOf211
 v164:=Tryz.zeroValue211
theorem Tryz.laysWB:Lays.n167 Tryz.prog Tryz.ρA where
 mixed:=by kernel_rfl
 f167:=by kernel_rfl
 f240:=by kernel_rfl
 f276:=by kernel_rfl
 t0:=Tryz.underlying0
 a0:=Tryz.isAgg0
 z0:=Tryz.sizeOf0
 v0:=Tryz.zeroValue0
 t4:=Tryz.underlying4
 a4:=Tryz.isAgg4
 z4:=Tryz.sizeOf4
 v4:=Tryz.zeroValue4
 t5:=Tryz.underlying5
 a5:=Tryz.isAgg5
 z5:=Tryz.sizeOf5
 v5:=Tryz.zeroValue5
 t9:=Tryz.underlying9
 a9:=Tryz.isAgg9
 z9:=Tryz.sizeOf9
 v9:=Tryz.zeroValue9
 t20:=Tryz.underlying20
 a20:=Tryz.isAgg20
 z20:=Tryz.sizeOf20
 v20:=Tryz.zeroValue20
 t37:=Tryz.underlying22
 a37:=Tryz.isAgg22
 z37:=Tryz.sizeOf22
 v37:=Tryz.zeroValue22
 t70:=Tryz.underlying151
 a70:=Tryz.isAgg151
 z70:=Tryz.sizeOf151
 v70:=Tryz.zeroValue151
 t72:=Tryz.underlying153
 a72:=Tryz.isAgg153
 z72:=Tryz.sizeOf153
 v72:=Tryz.zeroValue153
 t75:=Tryz.underlying155
 a75:=Tryz.isAgg155
 z75:=Tryz.sizeOf155
 v75:=Tryz.zeroValue155
 t164:=Tryz.underlying211
 a164:=Tryz.isAgg211
 z164:=Tryz.sizeOf211
 v164:=Tryz.zeroValue211
theorem Tryz.extraRep:Builder.Extra Tryz.prog Tryz.ρA where
 sizeBuilder:=by kernel_rfl
 liesBuilder:=by kernel_rfl
 t5:=Tryz.laysRep.t5
 a5:=Tryz.laysRep.a5
 z5:=Tryz.laysRep.z5
 v5:=Tryz.laysRep.v5
 infoByte:=by kernel_rfl
 cellsByte:=by kernel_rfl
 sizeByte:=by kernel_rfl
 neB5:=by decide
theorem Tryz.WriteByte(B b:Nat)(g:List Value)(c:Int)(w:World)(h:Lib.IsBuilder 153 5 B b g w)(hlen:g.length+1<=140737488355328)(j:B<=w.heap.size):
  Calls Tryz.prog 80 #[.pointer (some ⟨b,0,none⟩),.int .u8 c] w λe w'=>e=.returned .nilIface/\(Lib.BuilderAt 153 5 B b (.pointer (some ⟨b,0,none⟩)) (g++[.int .u8 c]) w'/\Below B w w'):=
 Any.Builder_WriteByte Tryz.laysWB Tryz.extraRep B b g c w h hlen j
theorem Tryz.WriteString(B b:Nat)(g:List Value)(s:ByteArray)(w:World)(h:Lib.IsBuilder 153 5 B b g w)(hlen:g.length+s.size<=140737488355328)(j:B<=w.heap.size):
  Calls Tryz.prog 79 #[.pointer (some ⟨b,0,none⟩),.string s] w λe w'=>e=.returned (.tuple #[.int .i64 s.size,.nilIface])/\(Lib.BuilderAt 153 5 B b (.pointer (some ⟨b,0,none⟩)) (g++Lib.strCells s) w'/\Below B w w'):=
 Any.Builder_WriteString {Tryz.laysRep with} Tryz.extraRep B b g s w h hlen j
theorem Tryz.String(B b:Nat)(l:List UInt8)(w:World)(h:Lib.IsBuilder 153 5 B b (Lib.byteCells l) w)(g:B<=w.heap.size):
  Calls Tryz.prog 81 #[.pointer (some ⟨b,0,none⟩)] w λe w'=>e=.returned (.string ⟨l.toArray⟩)/\Below B w w':=
 Any.Builder_String_any {Tryz.laysRep with} Tryz.extraRep B b l w h g
theorem R6(l:List UInt8)(n:Int)(k:Nat):Lib.byteCells (l++Am.J0E n k)++[.int .u8 (Am.J6N n k)]=Lib.byteCells (l++Am.J0E n (k+1)):=by
 rw[Am.Jqw,<-List.append_assoc,Lib.byteCells_append (l++Am.J0E n k)]
 congr 1
 show [Value.int .u8 _]=[Value.int .u8 ((UInt8.ofNat (Am.J6N n k).toNat).toNat:Int)];rw[Am.Jn2]
set_option maxHeartbeats 6400000 in
set_option maxRecDepth 100000 in
theorem Tryz.put(s:ByteArray)(n:Int)(k:Nat)(hk:1<=k)(B:k<=8)(hs:s.size+8<=140737488355328)(w:World):
  Calls Tryz.prog 58 #[.string s,.int .i64 n,.int .i64 k] w λe w'=>e=.returned (.string ⟨(s.data.toList++Am.J0E n k).toArray⟩)/\Below w.heap.size w w':=by
 have C:s.data.toList.length=s.size:=(Lib.size_eq s).symm;have h0:Lib.IsBuilder 153 5 w.heap.size w.heap.size [] (w.alloc (.cells #[.pointer none,.slice none 0 0] 153)):=Lib.fresh_isBuilder 153 5 w;have b0:Below w.heap.size w (w.alloc (.cells #[.pointer none,.slice none 0 0] 153)):=(Below.refl _ w).alloc (Nat.le_refl _) _
 go_enter Tryz.func58,Tryz.ntmps58
 go_wp2_with (go_at_call 79;refine(Tryz.WriteString w.heap.size w.heap.size [] s _ h0 (by simp;omega) b0.size).mono ?_)
 rintro e v ⟨rfl,h1,b1⟩;have q:Lib.IsBuilder 153 5 w.heap.size w.heap.size (Lib.byteCells (s.data.toList++Am.J0E n 0)) v:=by rw[List.nil_append,Lib.strCells_eq]at h1;have y:Am.J0E n 0=[]:=rfl;rw[y,List.append_nil];exact Or.inr h1
 have r:=b0.trans b1;clear h1 b1 h0 b0
 go_wp2
 go_loopw [19] (λi h=> ∃j:Nat,j<=k/\i=.int .i64 j/\Lib.IsBuilder 153 5 w.heap.size w.heap.size (Lib.byteCells (s.data.toList++Am.J0E n j)) h/\Below w.heap.size w h)
  (λi _=>k-(intOf i).toNat)
 case atStart=>exact⟨0,Nat.zero_le _,rfl,q,r⟩
 case round=>
  obtain⟨j,D,rfl,o,g⟩:=hrel;by_cases A:j<k
  go_wp2_with (go_at_call 80;refine(Tryz.WriteByte w.heap.size w.heap.size _ _ _ o (by rw[Lib.byteCells_length,List.length_append,Am.JX];omega) g.size).mono ?_;rintro e x ⟨rfl,h2,b2⟩)
  have z:Am.J6N n j=IntKind.u64.wrap n/2^(8*j)%256:=by show((IntKind.wrap .u64 n).fdiv (2^(8*j)))%256=_;rw[Int.fdiv_eq_ediv_of_nonneg _ (Int.le_of_lt (Int.pow_pos (by decide)))]
  rw[<-z,R6]at h2;exact⟨⟨j+1,by omega,by simp,Or.inr h2,g.trans b2⟩,by simp[intOf];omega⟩;obtain rfl:j=k:=by omega
  go_wp2_with (go_at_call 81;refine(Tryz.String w.heap.size w.heap.size _ _ o g.size).mono ?_;rintro e x ⟨rfl,b2⟩)
  go_wp2
  go_ret
  exact⟨rfl,g.trans b2⟩
theorem Tryz.put_out(s:ByteArray)(n k:Int)(hk:k<1\/8<k)(w:World):
  Calls Tryz.prog 58 #[.string s,.int .i64 n,.int .i64 k] w λe w'=>e=.returned (.string s)/\Below w.heap.size w w':=by
 go_enter Tryz.func58,Tryz.ntmps58
 go_wp2
 all_goals (go_ret;exact⟨rfl,Below.refl _ _⟩)
theorem oz(l:List UInt8): ∀c,Lib.repeatL l c=(List.replicate c l).flatten|0=>rfl|c+1=>by rw[Lib.repeatL,oz l c,List.replicate_succ,List.flatten_cons]
theorem pj(l:List UInt8):(⟨l.toArray⟩:ByteArray).data.toList=l:=rfl
theorem Xm(args:List Am.AV)(blks:List Am.Blk)(r:Am.Res)(h:Am.JBS args blks=some r):Am.J5O Tryz.prog 60 args blks r:=by
 unfold Am.JBS at h;split at h;rename_i bl l n;obtain⟨x,e,rfl⟩:=Option.map_eq_some_iff.1 h;unfold Am.Jlc at e;split at e;rename_i g;obtain⟨h0,h1,h2⟩:=g;injection e with e;subst e;refine Am.JpH (xs:=[.s l,.i .i64 n]) (vs:=[.string ⟨l.toArray⟩,.int .i64 n]) (v:=.string ⟨((List.replicate n.toNat l).flatten).toArray⟩) ⟨_,Tryz.func60,by decide,by decide⟩ rfl rfl λw=>?_;have h3:=Any.strings_Repeat Tryz.laysRep Tryz.extraRep ⟨l.toArray⟩ n.toNat w (by omega) (by rw[Lib.size_eq];exact h2);rw[pj,oz,show((n.toNat:Nat):Int)=n by omega]at h3;exact h3;cases e;cases h
theorem I2(args:List Am.AV)(blks:List Am.Blk)(r:Am.Res)(h:Am.JBn args blks=some r):Am.J5O Tryz.prog 58 args blks r:=by
 unfold Am.JBn at h;split at h;rename_i bl l n k;obtain⟨x,e,rfl⟩:=Option.map_eq_some_iff.1 h;unfold Am.Jk7 at e;split at e;rename_i g;injection e with e;subst e;exact Am.JpH (xs:=[.s l,.i .i64 n,.i .i64 k]) (vs:=[.string ⟨l.toArray⟩,.int .i64 n,.int .i64 k]) (v:=.string ⟨l.toArray⟩) ⟨_,Tryz.func58,by decide,by decide⟩ rfl rfl λw=>Tryz.put_out _ n k g w;rename_i g;split at e;rename_i h2;injection e with e;subst e;refine Am.JpH (xs:=[.s l,.i .i64 n,.i .i64 k]) (vs:=[.string ⟨l.toArray⟩,.int .i64 n,.int .i64 k]) (v:=.string ⟨(l++Am.J0E n k.toNat).toArray⟩) ⟨_,Tryz.func58,by decide,by decide⟩ rfl rfl λw=>?_;have h3:=Tryz.put ⟨l.toArray⟩ n k.toNat (by omega) (by omega) (by rw[Lib.size_eq];exact h2) w;rw[pj,show((k.toNat:Nat):Int)=k by omega]at h3;exact h3;cases e;cases h
end Go.Proofs
end
