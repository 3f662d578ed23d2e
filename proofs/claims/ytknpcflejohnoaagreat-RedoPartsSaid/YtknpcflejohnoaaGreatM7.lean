/-
  Parts of a proof.
-/
import Derived.Shelf.Strings.Repeat
import Derived.Shelf.Strings.Builder1
import Derived.Shelf.Lays
import Derived.Test.YtknpcflejohnoaaGreatProg
import Derived.Lib.Agree
import Derived.KernelRfl
import Derived.WalkKit
import Derived.BigCall
import Derived.Test.YtknpcflejohnoaaGreatM2
import Derived.Test.YtknpcflejohnoaaGreatM3
import Derived.Test.YtknpcflejohnoaaGreatM5
import Derived.Test.YtknpcflejohnoaaGreatM6
set_option linter.unusedSimpArgs false
set_option linter.unusedVariables false
section
namespace Go.Am
set_option maxRecDepth 20000
set_option maxHeartbeats 4000000
noncomputable section
abbrev yo:=aG 41 Nq NK::aG 55 Rk N2::aG 77 Xu NS::aG 76 Xd sX::aG 74 Xv kK::aG 75 Iz BK::aG 62 Sz GS::aG 87 S2 jp::aG 88 Yc WZ::aG 54 Uj BU::[]
theorem Nm:AE yo:=by
 iterate 10 refine n9 (λ_=>rfl) ?_ λ_=>by kernel_rfl
 exact ae0
abbrev zn:=aG 27 Wa xZ::aG 52 Nz i5::yo
theorem zb:AE zn:=by
 iterate 2 refine n9 (λ_=>rfl) ?_ λ_=>by kernel_rfl
 exact Nm
noncomputable def EJ:PS:=λf=>if f=10 then some (pgP JE J7 xP)else none
theorem M0:yX EJ 10=some (.prim (pgP JE J7 xP)):=rfl
def AD(l:List TE):Prop:=zB (AF (yX EJ)) l
theorem fE{i g S l f}(hf:yX EJ i=some (.fn (aN f)))(A:AD l)(q: ∀x,onO (nN g x) (λy=>vQ (TG.of l) f y.1 y.2 (pH g))=S x)(hs:EX g=true:=by rfl):AD (aG i g S::l):=⟨mt hf A hs q,A⟩
abbrev VU:=aG 10 Na xP::zn
theorem wt:AD VU:=⟨JIN M0,zb EJ⟩
theorem Xm(r x):onO (nN g_draw_Codes_Next x) (λy=>vQ (TG.of (aG 9 g_draw_Codes_Next r::VU)) nq y.1 y.2 (pH g_draw_Codes_Next))=GY r x:=by kernel_rfl
abbrev As:=aG 9 g_draw_Codes_Next Jt::VU
theorem Xi:AD As:=⟨YL (fn:=nq) (l:=VU) rfl (wt) rfl Xm 100,wt⟩
abbrev wh:=aG 92 F9 xN::aG 91 Gp uS::aG 93 F8 Hy::aG 71 G8 uN::aG 94 Tq GU::aG 51 Y5 XF::aG 73 Xq XC::aG 104 Yl NU::aG 38 W3 iF::aG 39 X0 GX::As
theorem E9:AD wh:=by
 iterate 10 refine fE rfl ?_ λ_=>by kernel_rfl
 exact Xi
abbrev ym:=aG 13 Om jC::aG 32 Q6 JC::aG 36 M7 kG::aG 44 Ry Jm::aG 63 Nh qK::aG 67 Qy kE::aG 89 Xh hC::aG 64 Sx mB::aG 49 Fm uT::aG 70 Hv xO::wh
theorem Q7:AD ym:=by
 iterate 10 refine fE rfl ?_ λ_=>by kernel_rfl
 exact E9
abbrev xj:=aG 228 Lx MT::aG 227 Pc GI::aG 209 W4 vH::aG 144 Ou sL::aG 126 N0 NH::aG 156 Kj lD::aG 155 Qf jD::aG 198 Oi qJ::aG 103 Sw Jr::aG 14 Im vD::ym
theorem Lk:AD xj:=by
 iterate 10 refine fE rfl ?_ λ_=>by kernel_rfl
 exact Q7
abbrev yc:=aG 143 Pp mY::aG 187 Ya mG::aG 186 N5 iG::aG 230 F0 oN::aG 132 Nv JQ::aG 163 Q3 nF::aG 65 V1 iS::aG 66 P1 gO::aG 185 Rf mC::aG 229 K4 sC::xj
theorem Qs:AD yc:=by
 iterate 10 refine fE rfl ?_ λ_=>by kernel_rfl
 exact Lk
abbrev zf:=aG 215 Sm GR::aG 176 Lt hA::aG 179 If kH::aG 218 Fo GA::aG 110 Fx eC::aG 177 Uy gQ::aG 33 Wm JB::aG 95 Of CL::aG 112 Pv BO::aG 120 P7 Jq::yc
theorem Si:AD zf:=by
 iterate 10 refine fE rfl ?_ λ_=>by kernel_rfl
 exact Qs
abbrev yy:=aG 175 Um BV::aG 164 G4 JT::aG 139 Hf gH::aG 147 Mf qH::aG 130 Gf lZ::aG 115 Ho hI::aG 133 Mi iE::aG 178 Lz fJ::aG 217 Ur sW::aG 216 Hx qC::zf
theorem Ug:AD yy:=by
 iterate 10 refine fE rfl ?_ λ_=>by kernel_rfl
 exact Si
abbrev ya:=aG 114 R0 mZ::aG 131 Qq jE::aG 99 X9 CU::aG 117 Mt AZ::aG 137 JCr AM::aG 172 Oa vF::aG 138 T6 CA::aG 173 Oc oQ::aG 174 Ss WA::aG 214 Vf NM::yy
theorem Nk:AD ya:=by
 iterate 10 refine fE rfl ?_ λ_=>by kernel_rfl
 exact Ug
abbrev Af:=aG 167 Tb sR::aG 211 Qk uU::aG 248 Qm uW::aG 169 Q2 kF::aG 212 Va NO::aG 168 L2 xS::aG 134 R3 eV::aG 165 P4 vE::aG 45 Pg fW::aG 166 Ge qB::ya
theorem Uk:AD Af:=by
 iterate 10 refine fE rfl ?_ λ_=>by kernel_rfl
 exact Nk
abbrev xp:=aG 236 Li SX::aG 235 Mq SZ::aG 193 Lq AT::aG 98 Rl CH::aG 116 N3 qE::aG 136 Vb sO::aG 171 Qc BM::aG 213 Gk jF::aG 135 O3 BP::aG 170 Kv BD::Af
theorem Kw:AD xp:=by
 iterate 10 refine fE rfl ?_ λ_=>by kernel_rfl
 exact Uk
abbrev vn:=aG 238 JBT AN::aG 195 Fq uP::aG 237 Tn BR::aG 197 Lh MZ::aG 194 Vn NN::aG 46 Nt lB::aG 153 K7 qG::aG 151 Wj nB::aG 152 Wl CM::aG 192 R6 yB::xp
theorem JB4:AD vn:=by
 iterate 10 refine fE rfl ?_ λ_=>by kernel_rfl
 exact Kw
abbrev zi:=aG 233 S7 sU::aG 256 Rh BN::aG 222 E7 dP::aG 146 Iy AY::aG 189 Ga SQ::aG 122 Kx SV::aG 150 Tj NQ::aG 123 Hn gJ::aG 154 In hH::aG 196 T3 uZ::vn
theorem Uo:AD zi:=by
 iterate 10 refine fE rfl ?_ λ_=>by kernel_rfl
 exact JB4
abbrev x8:=aG 48 Ki mV::aG 69 Q8 oR::aG 90 M6 qI::aG 111 N4 sK::aG 21 Oo gP::aG 149 Tg sT::aG 191 Fb sH::aG 148 Pd uX::aG 190 Xc oS::aG 234 Gt GD::zi
theorem Ma:AD x8:=by
 iterate 10 refine fE rfl ?_ λ_=>by kernel_rfl
 exact Uo
abbrev xw:=aG 210 L7 GK::aG 160 V9 CN::aG 100 Tr vA::aG 102 Kr BB::aG 121 Qw mD::aG 145 Kc sE::aG 188 Kg mX::aG 231 Tm uY::aG 232 Hr vC::aG 23 Km lE::x8
theorem Kn:AD xw:=by
 iterate 10 refine fE rfl ?_ λ_=>by kernel_rfl
 exact Ma
abbrev WL:=aG 245 Wo WJ::aG 205 Ww WX::aG 243 Ot NF::aG 128 Vk WT::aG 161 Ha GF::xw
theorem yr:AD WL:=by
 iterate 5 refine fE rfl ?_ λ_=>by kernel_rfl
 exact Kn
theorem Te(r x):onO (nN g_ref09_closed x) (λy=>vQ (TG.of (aG 246 g_ref09_closed r::WL)) js y.1 y.2 (pH g_ref09_closed))=GQ r x:=by kernel_rfl
abbrev Ae:=aG 246 g_ref09_closed ye::WL
theorem Sd:AD Ae:=⟨YL (fn:=js) (l:=WL) rfl (yr) rfl Te 1100,yr⟩
abbrev yt:=aG 240 U1 WF::aG 200 Su sQ::aG 206 Ud sV::aG 244 Hu AR::aG 208 Ie SL::aG 247 Pk VV::aG 202 Ke MX::aG 203 L4 MV::aG 242 Uu yA::aG 207 O2 VP::Ae
theorem Uq:AD yt:=by
 iterate 10 refine fE rfl ?_ λ_=>by kernel_rfl
 exact Sd
abbrev xi:=aG 162 Kq mA::aG 127 JCw AP::aG 159 W2 qM::aG 158 U7 vJ::aG 157 JAy sA::aG 199 Vh vI::aG 239 T7 GT::aG 204 Hs NB::aG 201 Qr qL::aG 241 U4 WW::yt
theorem Kl:AD xi:=by
 iterate 10 refine fE rfl ?_ λ_=>by kernel_rfl
 exact Uq
abbrev yn:=aG 141 Rc nD::aG 180 L9 BJ::aG 181 Rs sI::aG 220 Sc BW::aG 249 Hk xR::aG 219 Re xU::aG 140 Ij BI::aG 97 Yo CQ::aG 113 JAS AL::aG 129 Mm AU::xi
theorem P2:AD yn:=by
 iterate 10 refine fE rfl ?_ λ_=>by kernel_rfl
 exact Kl
abbrev yd:=aG 226 Qh VX::aG 255 M4 SU::aG 258 I5 ST::aG 182 L6 xQ::aG 223 So BX::aG 251 Yd CV::aG 250 Yy JH::aG 252 Y3 yC::aG 221 Vg nA::aG 118 Pa BQ::yn
theorem Ob:AD yd:=by
 iterate 10 refine fE rfl ?_ λ_=>by kernel_rfl
 exact P2
abbrev Ah:=aG 183 Wv CP::aG 225 K8 BL::aG 254 Og lC::aG 224 Rg CJ::aG 253 Sg BZ::aG 257 S5 vG::aG 259 R9 WH::aG 262 Yh NT::aG 261 Yx tA::aG 260 Tt BY::yd
theorem Ws:AD Ah:=by
 iterate 10 refine fE rfl ?_ λ_=>by kernel_rfl
 exact Ob
abbrev vm:=aG 7 JAw AO::aG 8 Ym CW::aG 26 Yq CR::aG 50 H9 AQ::aG 72 Y7 CT::aG 96 Y0 qN::aG 101 Za CX::aG 119 La ND::aG 142 L3 xT::aG 184 P5 CC::Ah
theorem JBN:AD vm:=by
 iterate 10 refine fE rfl ?_ λ_=>by kernel_rfl
 exact Ws
abbrev Ai:=aG 30 Vo zl::aG 43 Uh WC::vm
theorem U5:AD Ai:=by
 iterate 2 refine fE rfl ?_ λ_=>by kernel_rfl
 exact JBN
abbrev wi:=aG 58 G5 xM::Ai
theorem Gx:AD wi:=⟨JHc rfl,U5⟩
abbrev xe:=aG 61 Gu SS::aG 86 X5 XA::wi
theorem Fj:AD xe:=by
 iterate 2 refine fE rfl ?_ λ_=>by kernel_rfl
 exact Gx
abbrev An:=aG 60 Xw NR::xe
theorem W9:AD An:=⟨JHP rfl,Fj⟩
abbrev xb:=aG 12 Fz uQ::aG 35 J8O NW::aG 34 O1 NG::aG 6 Oj VS::aG 20 Ly GN::aG 42 Q1 uV::aG 56 O6 GJ::aG 78 L8 NC::aG 57 Iq sD::aG 59 Ye XE::An
theorem F6:AD xb:=by
 iterate 10 refine fE rfl ?_ λ_=>by kernel_rfl
 exact W9
abbrev X1:=aG 5 Xr XB::aG 11 Pu CF::aG 24 Hi GL::xb
theorem Xs:AD X1:=by
 iterate 3 refine fE rfl ?_ λ_=>by kernel_rfl
 exact F6
end
end Go.Am
end
section
namespace Go.Proofs
open Go.Shelf Go.RowKit
def Tryz.ρA:Ren where
 f:=fun
  |105=>60
  |212=>82
  |99=>83
  |165=>84
  |166=>79
  |170=>85
  |169=>81
  |263=>106
  |264=>107
  |206=>108
  |240=>105
  |241=>109
  |276=>124
  |277=>125
  |167=>80
  |n=>n
 t:=fun
  |9=>9
  |3=>3
  |4=>4
  |20=>20
  |0=>0
  |46=>160
  |109=>161
  |5=>5
  |72=>153
  |76=>156
  |51=>129
  |146=>183
  |53=>159
  |148=>185
  |70=>151
  |37=>22
  |75=>155
  |127=>182
  |164=>211
  |80=>98
  |n=>n
 g:=λn=>n
theorem Tryz.laysRep:Lays.n105 Tryz.prog Tryz.ρA where
 mixed:=by kernel_rfl
 f99:=by kernel_rfl
 f105:=by kernel_rfl
 f165:=by kernel_rfl
 f166:=by kernel_rfl
 f169:=by kernel_rfl
 f170:=by kernel_rfl
 f206:=by kernel_rfl
 f212:=by kernel_rfl
 f240:=by kernel_rfl
 f241:=by kernel_rfl
 f263:=by kernel_rfl
 f264:=by kernel_rfl
 f276:=by kernel_rfl
 f277:=by kernel_rfl
 t0:=Tryz.underlying0
 a0:=Tryz.isAgg0
 z0:=Tryz.sizeOf0
 v0:=Tryz.zeroValue0
 t3:=Tryz.underlying3
 a3:=Tryz.isAgg3
 z3:=Tryz.sizeOf3
 v3:=Tryz.zeroValue3
 t4:=Tryz.underlying4
 a4:=Tryz.isAgg4
 z4:=Tryz.sizeOf4
 v4:=Tryz.zeroValue4
 t5:=Tryz.underlying5
 a5:=Tryz.isAgg5
 z5:=Tryz.sizeOf5
 v5:=Tryz.zeroValue5
 t9:=Tryz.underlying9
 a9:=Tryz.isAgg9
 z9:=Tryz.sizeOf9
 v9:=Tryz.zeroValue9
 t20:=Tryz.underlying20
 a20:=Tryz.isAgg20
 z20:=Tryz.sizeOf20
 v20:=Tryz.zeroValue20
 t37:=Tryz.underlying22
 a37:=Tryz.isAgg22
 z37:=Tryz.sizeOf22
 v37:=Tryz.zeroValue22
 t46:=Tryz.underlying160
 a46:=Tryz.isAgg160
 z46:=Tryz.sizeOf160
 v46:=Tryz.zeroValue160
 t51:=Tryz.underlying129
 a51:=Tryz.isAgg129
 z51:=Tryz.sizeOf129
 v51:=Tryz.zeroValue129
 t53:=Tryz.underlying159
 a53:=Tryz.isAgg159
 z53:=Tryz.sizeOf159
 v53:=Tryz.zeroValue159
 t70:=Tryz.underlying151
 a70:=Tryz.isAgg151
 z70:=Tryz.sizeOf151
 v70:=Tryz.zeroValue151
 t72:=Tryz.underlying153
 a72:=Tryz.isAgg153
 z72:=Tryz.sizeOf153
 v72:=Tryz.zeroValue153
 t75:=Tryz.underlying155
 a75:=Tryz.isAgg155
 z75:=Tryz.sizeOf155
 v75:=Tryz.zeroValue155
 t76:=Tryz.underlying156
 a76:=Tryz.isAgg156
 z76:=Tryz.sizeOf156
 v76:=Tryz.zeroValue156
 t109:=Tryz.underlying161
 a109:=Tryz.isAgg161
 z109:=Tryz.sizeOf161
 v109:=Tryz.zeroValue161
 t127:=Tryz.underlying182
 a127:=Tryz.isAgg182
 z127:=Tryz.sizeOf182
 v127:=Tryz.zeroValue182
 t146:=Tryz.underlying183
 a146:=Tryz.isAgg183
 z146:=Tryz.sizeOf183
 v146:=Tryz.zeroValue183
 t148:=Tryz.underlying185
 a148:=Tryz.isAgg185
 z148:=Tryz.sizeOf185
 v148:=Tryz.zeroValue185
 t164:=Tryz.underlying211
 a164:=Tryz.isAgg211
 z164:=Tryz.sizeOf211
 v164:=Tryz.zeroValue211
theorem Tryz.laysWB:Lays.n167 Tryz.prog Tryz.ρA where
 mixed:=by kernel_rfl
 f167:=by kernel_rfl
 f240:=by kernel_rfl
 f276:=by kernel_rfl
 t0:=Tryz.underlying0
 a0:=Tryz.isAgg0
 z0:=Tryz.sizeOf0
 v0:=Tryz.zeroValue0
 t4:=Tryz.underlying4
 a4:=Tryz.isAgg4
 z4:=Tryz.sizeOf4
 v4:=Tryz.zeroValue4
 t5:=Tryz.underlying5
 a5:=Tryz.isAgg5
 z5:=Tryz.sizeOf5
 v5:=Tryz.zeroValue5
 t9:=Tryz.underlying9
 a9:=Tryz.isAgg9
 z9:=Tryz.sizeOf9
 v9:=Tryz.zeroValue9
 t20:=Tryz.underlying20
 a20:=Tryz.isAgg20
 z20:=Tryz.sizeOf20
 v20:=Tryz.zeroValue20
 t37:=Tryz.underlying22
 a37:=Tryz.isAgg22
 z37:=Tryz.sizeOf22
 v37:=Tryz.zeroValue22
 t70:=Tryz.underlying151
 a70:=Tryz.isAgg151
 z70:=Tryz.sizeOf151
 v70:=Tryz.zeroValue151
 t72:=Tryz.underlying153
 a72:=Tryz.isAgg153
 z72:=Tryz.sizeOf153
 v72:=Tryz.zeroValue153
 t75:=Tryz.underlying155
 a75:=Tryz.isAgg155
 z75:=Tryz.sizeOf155
 v75:=Tryz.zeroValue155
 t164:=Tryz.underlying211
 a164:=Tryz.isAgg211
 z164:=Tryz.sizeOf211
 v164:=Tryz.zeroValue211
theorem Tryz.extraRep:Builder.Extra Tryz.prog Tryz.ρA where
 sizeBuilder:=by kernel_rfl
 liesBuilder:=by kernel_rfl
 t5:=Tryz.laysRep.t5
 a5:=Tryz.laysRep.a5
 z5:=Tryz.laysRep.z5
 v5:=Tryz.laysRep.v5
 infoByte:=by kernel_rfl
 cellsByte:=by kernel_rfl
 sizeByte:=by kernel_rfl
 neB5:=by decide
theorem Tryz.WriteByte(B b:Nat)(g:List Value)(c:Int)(w:World)(h:Lib.IsBuilder 153 5 B b g w)(hlen:g.length+1<=140737488355328)(j:B<=w.heap.size):
  Calls Tryz.prog 80 #[.pointer (some ⟨b,0,none⟩),.int .u8 c] w λe w'=>e=.returned .nilIface/\(Lib.BuilderAt 153 5 B b (.pointer (some ⟨b,0,none⟩)) (g++[.int .u8 c]) w'/\Below B w w'):=
 Any.Builder_WriteByte Tryz.laysWB Tryz.extraRep B b g c w h hlen j
theorem Tryz.WriteString(B b:Nat)(g:List Value)(s:ByteArray)(w:World)(h:Lib.IsBuilder 153 5 B b g w)(hlen:g.length+s.size<=140737488355328)(j:B<=w.heap.size):
  Calls Tryz.prog 79 #[.pointer (some ⟨b,0,none⟩),.string s] w λe w'=>e=.returned (.tuple #[.int .i64 s.size,.nilIface])/\(Lib.BuilderAt 153 5 B b (.pointer (some ⟨b,0,none⟩)) (g++Lib.strCells s) w'/\Below B w w'):=
 Any.Builder_WriteString {Tryz.laysRep with} Tryz.extraRep B b g s w h hlen j
theorem Tryz.String(B b:Nat)(l:List UInt8)(w:World)(h:Lib.IsBuilder 153 5 B b (Lib.byteCells l) w)(g:B<=w.heap.size):
  Calls Tryz.prog 81 #[.pointer (some ⟨b,0,none⟩)] w λe w'=>e=.returned (.string ⟨l.toArray⟩)/\Below B w w':=
 Any.Builder_String_any {Tryz.laysRep with} Tryz.extraRep B b l w h g
theorem Th(l:List UInt8)(n:Int)(k:Nat):Lib.byteCells (l++Am.J06 n k)++[.int .u8 (Am.J6X n k)]=Lib.byteCells (l++Am.J06 n (k+1)):=by
 rw[Am.Jqa,<-List.append_assoc,Lib.byteCells_append (l++Am.J06 n k)]
 congr 1
 show [Value.int .u8 _]=[Value.int .u8 ((UInt8.ofNat (Am.J6X n k).toNat).toNat:Int)];rw[Am.JmG]
set_option maxHeartbeats 6400000 in
set_option maxRecDepth 100000 in
theorem Tryz.put(s:ByteArray)(n:Int)(k:Nat)(hk:1<=k)(A:k<=8)(hs:s.size+8<=140737488355328)(w:World):
  Calls Tryz.prog 58 #[.string s,.int .i64 n,.int .i64 k] w λe w'=>e=.returned (.string ⟨(s.data.toList++Am.J06 n k).toArray⟩)/\Below w.heap.size w w':=by
 have B:s.data.toList.length=s.size:=(Lib.size_eq s).symm;have h0:Lib.IsBuilder 153 5 w.heap.size w.heap.size [] (w.alloc (.cells #[.pointer none,.slice none 0 0] 153)):=Lib.fresh_isBuilder 153 5 w;have b0:Below w.heap.size w (w.alloc (.cells #[.pointer none,.slice none 0 0] 153)):=(Below.refl _ w).alloc (Nat.le_refl _) _
 go_enter Tryz.func58,Tryz.ntmps58
 go_wp2_with (go_at_call 79;refine(Tryz.WriteString w.heap.size w.heap.size [] s _ h0 (by simp;omega) b0.size).mono ?_)
 rintro e r ⟨rfl,h1,b1⟩;have o:Lib.IsBuilder 153 5 w.heap.size w.heap.size (Lib.byteCells (s.data.toList++Am.J06 n 0)) r:=by rw[List.nil_append,Lib.strCells_eq]at h1;have x:Am.J06 n 0=[]:=rfl;rw[x,List.append_nil];exact Or.inr h1
 have q:=b0.trans b1;clear h1 b1 h0 b0
 go_wp2
 go_loopw [19] (λi wr=> ∃j:Nat,j<=k/\i=.int .i64 j/\Lib.IsBuilder 153 5 w.heap.size w.heap.size (Lib.byteCells (s.data.toList++Am.J06 n j)) wr/\Below w.heap.size w wr)
  (λi _=>k-(intOf i).toNat)
 case atStart=>exact⟨0,Nat.zero_le _,rfl,o,q⟩
 case round=>
  obtain⟨j,C,rfl,h,g⟩:=hrel;by_cases z:j<k
  ·go_wp2_with (go_at_call 80;refine(Tryz.WriteByte w.heap.size w.heap.size _ _ _ h (by rw[Lib.byteCells_length,List.length_append,Am.Jv];omega) g.size).mono ?_;rintro e v ⟨rfl,h2,b2⟩)
   have y:Am.J6X n j=IntKind.u64.wrap n/2^(8*j)%256:=by show((IntKind.wrap .u64 n).fdiv (2^(8*j)))%256=_;rw[Int.fdiv_eq_ediv_of_nonneg _ (Int.le_of_lt (Int.pow_pos (by decide)))]
   rw[<-y,Th]at h2;exact⟨⟨j+1,by omega,by simp,Or.inr h2,g.trans b2⟩,by simp[intOf];omega⟩
  ·obtain rfl:j=k:=by omega
   go_wp2_with (go_at_call 81;refine(Tryz.String w.heap.size w.heap.size _ _ h g.size).mono ?_;rintro e v ⟨rfl,b2⟩)
   go_wp2
   go_ret
   exact⟨rfl,g.trans b2⟩
theorem Tryz.put_out(s:ByteArray)(n k:Int)(hk:k<1\/8<k)(w:World):
  Calls Tryz.prog 58 #[.string s,.int .i64 n,.int .i64 k] w λe w'=>e=.returned (.string s)/\Below w.heap.size w w':=by
 go_enter Tryz.func58,Tryz.ntmps58
 go_wp2
 all_goals (go_ret;exact⟨rfl,Below.refl _ _⟩)
theorem pf(l:List UInt8): ∀c,Lib.repeatL l c=(List.replicate c l).flatten|0=>rfl|c+1=>by rw[Lib.repeatL,pf l c,List.replicate_succ,List.flatten_cons]
theorem qq(l:List UInt8):(⟨l.toArray⟩:ByteArray).data.toList=l:=rfl
theorem Xg(args:List Am.AV)(blks:List Am.Blk)(r:Am.Res)(h:Am.JBA args blks=some r):Am.J5Y Tryz.prog 60 args blks r:=by
 unfold Am.JBA at h;split at h;rename_i bl l n;obtain⟨x,e,rfl⟩:=Option.map_eq_some_iff.1 h;unfold Am.JkS at e;split at e;rename_i g;obtain⟨h0,h1,h2⟩:=g;injection e with e;subst e;refine Am.Jpm (xs:=[.s l,.i .i64 n]) (vs:=[.string ⟨l.toArray⟩,.int .i64 n]) (v:=.string ⟨((List.replicate n.toNat l).flatten).toArray⟩) ⟨_,Tryz.func60,by decide,by decide⟩ rfl rfl λw=>?_;have h3:=Any.strings_Repeat Tryz.laysRep Tryz.extraRep ⟨l.toArray⟩ n.toNat w (by omega) (by rw[Lib.size_eq];exact h2);rw[qq,pf,show((n.toNat:Nat):Int)=n by omega]at h3;exact h3;cases e;cases h
theorem Iu(args:List Am.AV)(blks:List Am.Blk)(r:Am.Res)(h:Am.JB3 args blks=some r):Am.J5Y Tryz.prog 58 args blks r:=by
 unfold Am.JB3 at h;split at h;rename_i bl l n k;obtain⟨x,e,rfl⟩:=Option.map_eq_some_iff.1 h;unfold Am.JjN at e;split at e;rename_i g;injection e with e;subst e;exact Am.Jpm (xs:=[.s l,.i .i64 n,.i .i64 k]) (vs:=[.string ⟨l.toArray⟩,.int .i64 n,.int .i64 k]) (v:=.string ⟨l.toArray⟩) ⟨_,Tryz.func58,by decide,by decide⟩ rfl rfl λw=>Tryz.put_out _ n k g w;rename_i g;split at e;rename_i h2;injection e with e;subst e;refine Am.Jpm (xs:=[.s l,.i .i64 n,.i .i64 k]) (vs:=[.string ⟨l.toArray⟩,.int .i64 n,.int .i64 k]) (v:=.string ⟨(l++Am.J06 n k.toNat).toArray⟩) ⟨_,Tryz.func58,by decide,by decide⟩ rfl rfl λw=>?_;have h3:=Tryz.put ⟨l.toArray⟩ n k.toNat (by omega) (by omega) (by rw[Lib.size_eq];exact h2) w;rw[qq,show((k.toNat:Nat):Int)=k by omega]at h3;exact h3;cases e;cases h
end Go.Proofs
end
