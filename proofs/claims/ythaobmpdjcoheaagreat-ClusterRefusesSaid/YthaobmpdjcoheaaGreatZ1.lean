/- Own texts of this claim, part 1: short, merged. -/
import Derived.Below
import Derived.ProofKit
import Derived.Deep.Slices
import Derived.Laws.AppendOwn
import Derived.Laws.BitsLemmas
import Derived.Test.YthaobmpdjcoheaaGreatZ0
set_option maxRecDepth 100000
set_option maxHeartbeats 40000000
set_option linter.defProp false
set_option linter.unusedVariables false
set_option linter.unusedSimpArgs false
namespace Go.Proofs.YthaobmpdjcoheaaGreat
namespace bb
abbrev ays:=b1.mk cU
abbrev ayK:=b1.mk dj
abbrev ayT:=b1.mk oB
abbrev ayX:=b1.mk HH
abbrev aze:=b1.mk KZ
abbrev ayz:=b1.mk qj
abbrev ayD:=b1.mk yK
abbrev ayG:=b1.mk aDl
abbrev ayL:=b1.mk HG
abbrev ayM:=b1.mk ab0
abbrev ayP:=b1.mk Rg
abbrev ayQ:=b1.mk Cb
abbrev ayR:=b1.mk ab2
abbrev ayS:=b1.mk Ew
abbrev ayU:=b1.mk wW
abbrev ayV:=b1.mk aDq
abbrev ayW:=b1.mk aDr
abbrev ayY:=b1.mk ab3
abbrev ayZ:=b1.mk yL
abbrev ay0:=b1.mk ab4
abbrev ay1:=b1.mk Ex
abbrev ay2:=b1.mk Ey
abbrev ay3:=b1.mk HI
abbrev ay4:=b1.mk ab5
abbrev ay5:=b1.mk r8
abbrev ay6:=b1.mk ab6
abbrev ay7:=b1.mk ab7
abbrev ay8:=b1.mk ab8
abbrev ay9:=b1.mk aDs
abbrev aza:=b1.mk Ez
abbrev azb:=b1.mk Rh
abbrev azc:=b1.mk ab9
abbrev azd:=b1.mk Ri
abbrev azf:=b1.mk EA
abbrev azg:=b1.mk HJ
abbrev azh:=b1.mk K0
abbrev azi:=b1.mk EB
abbrev azj:=b1.mk Rj
abbrev azk:=b1.mk aca
abbrev azl:=b1.mk K1
abbrev azm:=b1.mk acb
abbrev ax4:=b1.mk abT
abbrev ax5:=b1.mk aC7
abbrev ax6:=b1.mk aC8
abbrev ax7:=b1.mk Ev
abbrev ax8:=b1.mk KX
abbrev ax9:=b1.mk abU
abbrev aya:=b1.mk aC9
abbrev ayb:=b1.mk oA
abbrev ayc:=b1.mk r6
abbrev ayd:=b1.mk aDa
abbrev aye:=b1.mk aDb
abbrev ayf:=b1.mk aDc
abbrev ayg:=b1.mk aDd
abbrev ayh:=b1.mk aDe
abbrev ayi:=b1.mk yJ
abbrev ayj:=b1.mk aDf
abbrev ayk:=b1.mk aDg
abbrev ayl:=b1.mk abV
abbrev aym:=b1.mk aDh
abbrev ayn:=b1.mk vn
abbrev ayo:=b1.mk vo
abbrev ayp:=b1.mk wV
abbrev ayq:=b1.mk r7
abbrev ayr:=b1.mk lQ
abbrev ayt:=b1.mk KY
abbrev ayu:=b1.mk Rd
abbrev ayv:=b1.mk Re
abbrev ayw:=b1.mk aDi
abbrev ayx:=b1.mk abW
abbrev ayy:=b1.mk aDj
abbrev ayA:=b1.mk aDk
abbrev ayB:=b1.mk abX
abbrev ayC:=b1.mk abY
abbrev ayE:=b1.mk abZ
abbrev ayF:=b1.mk Rf
abbrev ayH:=b1.mk aDm
abbrev ayI:=b1.mk aDn
abbrev ayJ:=b1.mk aDo
abbrev ayN:=b1.mk ab1
abbrev ayO:=b1.mk aDp
abbrev axJ:=eC.mk aaM
abbrev axP:=eC.mk Kj
abbrev axS:=eC.mk aaZ
abbrev axW:=eC.mk aa2
abbrev axQ:=eC.mk Qu
abbrev axR:=eC.mk aaY
abbrev axT:=eC.mk Qv
abbrev axU:=eC.mk aa0
abbrev axV:=eC.mk aa1
abbrev axX:=eC.mk Qw
abbrev axY:=eC.mk Hk
abbrev axZ:=eC.mk Kk
abbrev ax0:=eC.mk Kl
abbrev ax1:=eC.mk Qx
abbrev ax2:=eC.mk Qy
abbrev ax3:=eC.mk Km
abbrev axw:=eC.mk Kh
abbrev axx:=eC.mk aaC
abbrev axy:=eC.mk aAL
abbrev axz:=eC.mk Qp
abbrev axA:=eC.mk BT
abbrev axB:=eC.mk wE
abbrev axC:=eC.mk aaE
abbrev axD:=eC.mk aaF
abbrev axE:=eC.mk Qq
abbrev axF:=eC.mk Qr
abbrev axG:=eC.mk aaL
abbrev axH:=eC.mk Qs
abbrev axI:=eC.mk wF
abbrev axK:=eC.mk Qt
abbrev axL:=eC.mk Hj
abbrev axM:=eC.mk aaV
abbrev axN:=eC.mk aaW
abbrev axO:=eC.mk Ki
abbrev au5:=bl Tryz.func7
abbrev avd:=bl Tryz.func8
abbrev avo:=bl Tryz.func9
abbrev ar9:=bl Tryz.func10
abbrev asg:=bl Tryz.func11
abbrev asr:=bl Tryz.func12
abbrev asA:=bl Tryz.func13
abbrev asK:=bl Tryz.func14
abbrev asV:=bl Tryz.func15
abbrev as6:=bl Tryz.func16
abbrev ate:=bl Tryz.func17
abbrev atn:=bl Tryz.func18
abbrev atx:=bl Tryz.func19
abbrev atE:=bl Tryz.func20
abbrev atF:=bl Tryz.func21
abbrev atN:=bl Tryz.func22
abbrev atT:=bl Tryz.func23
abbrev at1:=bl Tryz.func24
abbrev aub:=bl Tryz.func25
abbrev auk:=bl Tryz.func26
abbrev auo:=bl Tryz.func27
abbrev aup:=bl Tryz.func28
abbrev auq:=bl Tryz.func29
abbrev aur:=bl Tryz.func30
abbrev aus:=bl Tryz.func31
abbrev aut:=bl Tryz.func32
abbrev auu:=bl Tryz.func33
abbrev auv:=bl Tryz.func34
abbrev auw:=bl Tryz.func35
abbrev auy:=bl Tryz.func36
abbrev auz:=bl Tryz.func37
abbrev auA:=bl Tryz.func38
abbrev auB:=bl Tryz.func39
abbrev auC:=bl Tryz.func40
abbrev auD:=bl Tryz.func41
abbrev auE:=bl Tryz.func42
abbrev auF:=bl Tryz.func43
abbrev auG:=bl Tryz.func44
abbrev auH:=bl Tryz.func45
abbrev auI:=bl Tryz.func46
abbrev auJ:=bl Tryz.func47
abbrev auK:=bl Tryz.func48
abbrev auL:=bl Tryz.func49
abbrev auM:=bl Tryz.func50
abbrev auN:=bl Tryz.func51
abbrev auO:=bl Tryz.func52
abbrev auP:=bl Tryz.func53
abbrev auQ:=bl Tryz.func54
abbrev auR:=bl Tryz.func55
abbrev auS:=bl Tryz.func56
abbrev auT:=bl Tryz.func57
abbrev auU:=bl Tryz.func58
abbrev auV:=bl Tryz.func59
abbrev auW:=bl Tryz.func60
abbrev auX:=bl Tryz.func61
abbrev auY:=bl Tryz.func62
abbrev auZ:=bl Tryz.func63
abbrev au0:=bl Tryz.func64
abbrev au1:=bl Tryz.func65
abbrev au2:=bl Tryz.func66
abbrev au3:=bl Tryz.func67
abbrev au4:=bl Tryz.func69
abbrev au6:=bl Tryz.func71
abbrev au7:=bl Tryz.func73
abbrev au8:=bl Tryz.func74
abbrev au9:=bl Tryz.func76
abbrev ava:=bl Tryz.func77
abbrev avb:=bl Tryz.func78
abbrev avc:=bl Tryz.func79
abbrev ave:=bl Tryz.func80
abbrev avf:=bl Tryz.func81
abbrev avg:=bl Tryz.func82
abbrev avh:=bl Tryz.func83
abbrev avi:=bl Tryz.func84
abbrev avj:=bl Tryz.func85
abbrev avk:=bl Tryz.func86
abbrev avl:=bl Tryz.func87
abbrev avm:=bl Tryz.func88
abbrev avn:=bl Tryz.func89
abbrev avp:=bl Tryz.func90
abbrev avq:=bl Tryz.func91
abbrev avr:=bl Tryz.func92
abbrev avs:=bl Tryz.func93
abbrev avt:=bl Tryz.func94
abbrev avu:=bl Tryz.func95
abbrev avv:=bl Tryz.func96
abbrev avw:=bl Tryz.func97
abbrev avx:=bl Tryz.func98
abbrev avy:=bl Tryz.func99
abbrev asa:=bl Tryz.func100
abbrev asb:=bl Tryz.func101
abbrev asc:=bl Tryz.func103
abbrev asd:=bl Tryz.func105
abbrev ase:=bl Tryz.func106
abbrev asf:=bl Tryz.func107
abbrev ash:=bl Tryz.func111
abbrev asi:=bl Tryz.func112
abbrev asj:=bl Tryz.func113
abbrev asl:=bl Tryz.func114
abbrev asm:=bl Tryz.func115
abbrev asn:=bl Tryz.func116
abbrev aso:=bl Tryz.func117
abbrev asp:=bl Tryz.func118
abbrev asq:=bl Tryz.func119
abbrev ass:=bl Tryz.func121
abbrev ast:=bl Tryz.func123
abbrev asu:=bl Tryz.func124
abbrev asv:=bl Tryz.func125
abbrev asw:=bl Tryz.func126
abbrev asx:=bl Tryz.func127
abbrev asy:=bl Tryz.func128
abbrev asz:=bl Tryz.func129
abbrev asB:=bl Tryz.func130
abbrev asC:=bl Tryz.func131
abbrev asD:=bl Tryz.func132
abbrev asE:=bl Tryz.func133
abbrev asF:=bl Tryz.func134
abbrev asG:=bl Tryz.func135
abbrev asH:=bl Tryz.func136
abbrev asI:=bl Tryz.func138
abbrev asJ:=bl Tryz.func139
abbrev asL:=bl Tryz.func140
abbrev asM:=bl Tryz.func141
abbrev asN:=bl Tryz.func142
abbrev asO:=bl Tryz.func143
abbrev asP:=bl Tryz.func144
abbrev asQ:=bl Tryz.func145
abbrev asR:=bl Tryz.func146
abbrev asS:=bl Tryz.func147
abbrev asT:=bl Tryz.func148
abbrev asU:=bl Tryz.func149
abbrev asW:=bl Tryz.func150
abbrev asX:=bl Tryz.func151
abbrev asY:=bl Tryz.func152
abbrev asZ:=bl Tryz.func153
abbrev as0:=bl Tryz.func154
abbrev as1:=bl Tryz.func155
abbrev as2:=bl Tryz.func156
abbrev as3:=bl Tryz.func157
abbrev as4:=bl Tryz.func158
abbrev as5:=bl Tryz.func159
abbrev as7:=bl Tryz.func160
abbrev as8:=bl Tryz.func161
abbrev as9:=bl Tryz.func162
abbrev ata:=bl Tryz.func166
abbrev atb:=bl Tryz.func167
abbrev atc:=bl Tryz.func168
abbrev atd:=bl Tryz.func169
abbrev atf:=bl Tryz.func170
abbrev atg:=bl Tryz.func171
abbrev ath:=bl Tryz.func172
abbrev ati:=bl Tryz.func173
abbrev atj:=bl Tryz.func174
abbrev atk:=bl Tryz.func175
abbrev atl:=bl Tryz.func177
abbrev atm:=bl Tryz.func179
abbrev ato:=bl Tryz.func180
abbrev atp:=bl Tryz.func181
abbrev atq:=bl Tryz.func182
abbrev atr:=bl Tryz.func183
abbrev ats:=bl Tryz.func184
abbrev att:=bl Tryz.func186
abbrev atu:=bl Tryz.func187
abbrev atv:=bl Tryz.func188
abbrev atw:=bl Tryz.func189
abbrev aty:=bl Tryz.func191
abbrev atz:=bl Tryz.func193
abbrev atA:=bl Tryz.func195
abbrev atB:=bl Tryz.func196
abbrev atC:=bl Tryz.func198
abbrev atD:=bl Tryz.func199
abbrev atG:=bl Tryz.func210
abbrev atH:=bl Tryz.func211
abbrev atI:=bl Tryz.func212
abbrev atJ:=bl Tryz.func213
abbrev atK:=bl Tryz.func214
abbrev atL:=bl Tryz.func215
abbrev atM:=bl Tryz.func216
abbrev atO:=bl Tryz.func224
abbrev atP:=bl Tryz.func226
abbrev atQ:=bl Tryz.func228
abbrev atS:=bl Tryz.func229
abbrev atU:=bl Tryz.func230
abbrev atV:=bl Tryz.func231
abbrev atW:=bl Tryz.func232
abbrev atX:=bl Tryz.func233
abbrev atY:=bl Tryz.func234
abbrev atZ:=bl Tryz.func235
abbrev at0:=bl Tryz.func236
abbrev at2:=bl Tryz.func243
abbrev at3:=bl Tryz.func244
abbrev at4:=bl Tryz.func245
abbrev at5:=bl Tryz.func246
abbrev at6:=bl Tryz.func247
abbrev at7:=bl Tryz.func248
abbrev aua:=bl Tryz.func249
abbrev auc:=bl Tryz.func250
abbrev aud:=bl Tryz.func251
abbrev aue:=bl Tryz.func252
abbrev auf:=bl Tryz.func253
abbrev aug:=bl Tryz.func254
abbrev auh:=bl Tryz.func256
abbrev aui:=bl Tryz.func258
abbrev auj:=bl Tryz.func259
abbrev aul:=bl Tryz.func260
abbrev aum:=bl Tryz.func261
abbrev aun:=bl Tryz.func262
abbrev azI:=a9.mk Tryz.underlying2
abbrev az3:=a9.mk Tryz.underlying3
abbrev aAc:=a9.mk Tryz.underlying4
abbrev aAf:=a9.mk Tryz.underlying5
abbrev aAw:=a9.mk Tryz.underlying9
abbrev azJ:=a9.mk Tryz.underlying20
abbrev azQ:=a9.mk Tryz.underlying22
abbrev azV:=a9.mk Tryz.underlying24
abbrev azW:=a9.mk Tryz.underlying25
abbrev azZ:=a9.mk Tryz.underlying26
abbrev az5:=a9.mk Tryz.underlying31
abbrev az6:=a9.mk Tryz.underlying32
abbrev az9:=a9.mk Tryz.underlying33
abbrev aAa:=a9.mk Tryz.underlying35
abbrev aAb:=a9.mk Tryz.underlying36
abbrev aAd:=a9.mk Tryz.underlying46
abbrev aAe:=a9.mk Tryz.underlying47
abbrev aAg:=a9.mk Tryz.underlying50
abbrev aAh:=a9.mk Tryz.underlying53
abbrev aAi:=a9.mk Tryz.underlying56
abbrev aAj:=a9.mk Tryz.underlying60
abbrev aAk:=a9.mk Tryz.underlying62
abbrev aAl:=a9.mk Tryz.underlying64
abbrev aAm:=a9.mk Tryz.underlying67
abbrev aAn:=a9.mk Tryz.underlying68
abbrev aAo:=a9.mk Tryz.underlying69
abbrev aAp:=a9.mk Tryz.underlying70
abbrev aAq:=a9.mk Tryz.underlying72
abbrev aAr:=a9.mk Tryz.underlying73
abbrev aAs:=a9.mk Tryz.underlying79
abbrev aAt:=a9.mk Tryz.underlying83
abbrev aAu:=a9.mk Tryz.underlying85
abbrev aAv:=a9.mk Tryz.underlying87
abbrev aAx:=a9.mk Tryz.underlying92
abbrev aAy:=a9.mk Tryz.underlying93
abbrev aAz:=a9.mk Tryz.underlying97
abbrev aAA:=a9.mk Tryz.underlying98
abbrev aAB:=a9.mk Tryz.underlying99
abbrev azn:=a9.mk Tryz.underlying101
abbrev azo:=a9.mk Tryz.underlying104
abbrev azp:=a9.mk Tryz.underlying111
abbrev azq:=a9.mk Tryz.underlying114
abbrev azr:=a9.mk Tryz.underlying135
abbrev azs:=a9.mk Tryz.underlying137
abbrev azt:=a9.mk Tryz.underlying142
abbrev azu:=a9.mk Tryz.underlying146
abbrev azv:=a9.mk Tryz.underlying150
abbrev azw:=a9.mk Tryz.underlying161
abbrev azx:=a9.mk Tryz.underlying173
abbrev azy:=a9.mk Tryz.underlying175
abbrev azz:=a9.mk Tryz.underlying178
abbrev azA:=a9.mk Tryz.underlying180
abbrev azB:=a9.mk Tryz.underlying182
abbrev azC:=a9.mk Tryz.underlying185
abbrev azD:=a9.mk Tryz.underlying189
abbrev azE:=a9.mk Tryz.underlying190
abbrev azF:=a9.mk Tryz.underlying194
abbrev azG:=a9.mk Tryz.underlying195
abbrev azH:=a9.mk Tryz.underlying197
abbrev azK:=a9.mk Tryz.underlying210
abbrev azL:=a9.mk Tryz.underlying211
abbrev azM:=a9.mk Tryz.underlying212
abbrev azN:=a9.mk Tryz.underlying214
abbrev azO:=a9.mk Tryz.underlying216
abbrev azP:=a9.mk Tryz.underlying218
abbrev azR:=a9.mk Tryz.underlying223
abbrev azS:=a9.mk Tryz.underlying232
abbrev azT:=a9.mk Tryz.underlying236
abbrev azU:=a9.mk Tryz.underlying238
abbrev azX:=a9.mk Tryz.underlying257
abbrev azY:=a9.mk Tryz.underlying259
abbrev az0:=a9.mk Tryz.underlying270
abbrev az1:=a9.mk Tryz.underlying278
abbrev az2:=a9.mk Tryz.underlying292
abbrev az4:=a9.mk Tryz.underlying308
abbrev az7:=a9.mk Tryz.underlying326
abbrev az8:=a9.mk Tryz.underlying328
abbrev awJ:=cq 0 0 Tryz.underlying24 dj
abbrev awK:=cq 1 1 Tryz.underlying24 qj
abbrev awL:=cq 2 2 Tryz.underlying24 qj
abbrev awM:=cq 3 3 Tryz.underlying24 cU
abbrev awU:=cq 0 0 Tryz.underlying31 dj
abbrev awV:=cq 1 1 Tryz.underlying31 dj
abbrev awW:=cq 2 2 Tryz.underlying31 dj
abbrev awX:=cq 3 3 Tryz.underlying31 cU
abbrev aw0:=cq 0 0 Tryz.underlying35 dj
abbrev aw1:=cq 1 1 Tryz.underlying35 dj
abbrev aw2:=cq 2 2 Tryz.underlying35 dj
abbrev aw3:=cq 3 3 Tryz.underlying35 cU
abbrev aw4:=cq 4 4 Tryz.underlying35 HG
abbrev aw5:=cq 5 8 Tryz.underlying35 ab0
abbrev aw6:=cq 6 9 Tryz.underlying35 Rg
abbrev aw7:=cq 0 0 Tryz.underlying53 dj
abbrev aw8:=cq 1 1 Tryz.underlying53 Ew
abbrev aw9:=cq 2 2 Tryz.underlying53 cU
abbrev axa:=cq 0 0 Tryz.underlying60 dj
abbrev axb:=cq 1 1 Tryz.underlying60 dj
abbrev axc:=cq 2 2 Tryz.underlying60 cU
abbrev axd:=cq 3 3 Tryz.underlying60 oB
abbrev axe:=cq 0 0 Tryz.underlying62 dj
abbrev axf:=cq 1 1 Tryz.underlying62 Ex
abbrev axg:=cq 2 5 Tryz.underlying62 oB
abbrev axh:=cq 3 6 Tryz.underlying62 cU
abbrev axi:=cq 1 1 Tryz.underlying64 dj
abbrev axj:=cq 2 2 Tryz.underlying64 dj
abbrev axk:=cq 3 3 Tryz.underlying64 Ey
abbrev axl:=cq 0 0 Tryz.underlying67 ab5
abbrev axm:=cq 0 0 Tryz.underlying72 r8
abbrev axn:=cq 1 1 Tryz.underlying72 qj
abbrev axo:=cq 2 2 Tryz.underlying72 cU
abbrev axp:=cq 3 3 Tryz.underlying72 ab6
abbrev axq:=cq 4 4 Tryz.underlying72 ab7
abbrev axr:=cq 5 5 Tryz.underlying72 ab8
abbrev axs:=cq 0 0 Tryz.underlying85 cU
abbrev axt:=cq 1 1 Tryz.underlying85 Ez
abbrev axu:=cq 0 0 Tryz.underlying87 dj
abbrev axv:=cq 1 1 Tryz.underlying87 cU
abbrev avz:=cq 0 0 Tryz.underlying101 EA
abbrev avA:=cq 1 1 Tryz.underlying101 cU
abbrev avB:=cq 2 2 Tryz.underlying101 HJ
abbrev avC:=cq 3 3 Tryz.underlying101 K0
abbrev avD:=cq 4 4 Tryz.underlying101 EB
abbrev avE:=cq 5 5 Tryz.underlying101 Rj
abbrev avF:=cq 6 6 Tryz.underlying101 aca
abbrev avG:=cq 7 7 Tryz.underlying101 K1
abbrev avH:=cq 8 8 Tryz.underlying101 acb
abbrev avI:=cq 0 0 Tryz.underlying104 Ew
abbrev avJ:=cq 1 1 Tryz.underlying104 cU
abbrev avK:=cq 0 0 Tryz.underlying114 yK
abbrev avL:=cq 1 4 Tryz.underlying114 cU
abbrev avM:=cq 2 5 Tryz.underlying114 Ev
abbrev avN:=cq 3 6 Tryz.underlying114 KX
abbrev avO:=cq 4 7 Tryz.underlying114 K1
abbrev avP:=cq 5 8 Tryz.underlying114 ab3
abbrev avQ:=cq 0 0 Tryz.underlying135 Ex
abbrev avR:=cq 1 4 Tryz.underlying135 cU
abbrev avS:=cq 2 5 Tryz.underlying135 cU
abbrev avT:=cq 0 0 Tryz.underlying137 cU
abbrev avU:=cq 1 1 Tryz.underlying137 cU
abbrev avV:=cq 0 0 Tryz.underlying142 dj
abbrev avW:=cq 1 1 Tryz.underlying142 cU
abbrev avX:=cq 2 2 Tryz.underlying142 dj
abbrev avY:=cq 3 3 Tryz.underlying142 dj
abbrev avZ:=cq 4 4 Tryz.underlying142 cU
abbrev av0:=cq 5 5 Tryz.underlying142 oB
abbrev av1:=cq 0 0 Tryz.underlying150 Rj
abbrev av2:=cq 1 1 Tryz.underlying150 ab2
abbrev av3:=cq 0 0 Tryz.underlying161 dj
abbrev av4:=cq 1 1 Tryz.underlying161 Ey
abbrev av5:=cq 0 0 Tryz.underlying173 cU
abbrev av6:=cq 1 1 Tryz.underlying173 cU
abbrev av7:=cq 2 2 Tryz.underlying173 cU
abbrev av8:=cq 3 3 Tryz.underlying173 oB
abbrev av9:=cq 0 0 Tryz.underlying175 yJ
abbrev awa:=cq 1 4 Tryz.underlying175 qj
abbrev awb:=cq 2 5 Tryz.underlying175 cU
abbrev awc:=cq 3 6 Tryz.underlying175 cU
abbrev awd:=cq 0 0 Tryz.underlying178 dj
abbrev awe:=cq 1 1 Tryz.underlying178 dj
abbrev awf:=cq 2 2 Tryz.underlying178 ab4
abbrev awg:=cq 3 3 Tryz.underlying178 K1
abbrev awh:=cq 0 0 Tryz.underlying182 abV
abbrev awi:=cq 1 1 Tryz.underlying182 dj
abbrev awj:=cq 2 2 Tryz.underlying182 oB
abbrev awk:=cq 3 3 Tryz.underlying182 dj
abbrev awl:=cq 4 4 Tryz.underlying182 Rg
abbrev awm:=cq 0 0 Tryz.underlying197 wV
abbrev awn:=cq 1 1 Tryz.underlying197 r7
abbrev awo:=cq 2 2 Tryz.underlying197 cU
abbrev awp:=cq 3 3 Tryz.underlying197 qj
abbrev awq:=cq 4 4 Tryz.underlying197 KZ
abbrev awr:=cq 0 0 Tryz.underlying210 oB
abbrev aws:=cq 1 1 Tryz.underlying210 oB
abbrev awt:=cq 2 2 Tryz.underlying210 cU
abbrev awu:=cq 0 0 Tryz.underlying214 HG
abbrev awv:=cq 1 4 Tryz.underlying214 Rd
abbrev aww:=cq 2 10 Tryz.underlying214 Re
abbrev awx:=cq 3 12 Tryz.underlying214 Ew
abbrev awy:=cq 4 13 Tryz.underlying214 cU
abbrev awz:=cq 0 0 Tryz.underlying218 abW
abbrev awA:=cq 1 1 Tryz.underlying218 cU
abbrev awB:=cq 2 2 Tryz.underlying218 cU
abbrev awC:=cq 0 0 Tryz.underlying223 cU
abbrev awD:=cq 0 0 Tryz.underlying236 dj
abbrev awE:=cq 1 1 Tryz.underlying236 dj
abbrev awF:=cq 0 0 Tryz.underlying238 abX
abbrev awG:=cq 1 2 Tryz.underlying238 HJ
abbrev awH:=cq 2 3 Tryz.underlying238 dj
abbrev awI:=cq 3 4 Tryz.underlying238 oB
abbrev awN:=cq 0 0 Tryz.underlying257 vn
abbrev awO:=cq 1 1 Tryz.underlying257 dj
abbrev awP:=cq 0 0 Tryz.underlying259 wW
abbrev awQ:=cq 0 0 Tryz.underlying278 vn
abbrev awR:=cq 1 1 Tryz.underlying278 dj
abbrev awS:=cq 0 0 Tryz.underlying292 cU
abbrev awT:=cq 1 1 Tryz.underlying292 cU
abbrev awY:=cq 0 0 Tryz.underlying328 ab1
abbrev awZ:=cq 1 1 Tryz.underlying328 cU
attribute [instance] ays ayK ayT ayX aze ayz ayD ayG ayL ayM ayP ayQ ayR ayS ayU ayV ayW ayY ayZ ay0 ay1 ay2 ay3 ay4 ay5 ay6 ay7 ay8 ay9 aza azb azc azd azf azg azh azi azj azk azl azm ax4 ax5 ax6 ax7 ax8 ax9 aya ayb ayc ayd aye ayf ayg ayh ayi ayj ayk ayl aym ayn ayo ayp ayq ayr ayt ayu ayv ayw ayx ayy ayA ayB ayC ayE ayF ayH ayI ayJ ayN ayO axJ axP axS axW axQ axR axT axU axV axX axY axZ ax0 ax1 ax2 ax3 axw axx axy axz axA axB axC axD axE axF axG axH axI axK axL axM axN axO au5 avd avo ar9 asg asr asA asK asV as6 ate atn atx atE atF atN atT at1 aub auk auo aup auq aur aus aut auu auv auw auy auz auA auB auC auD auE auF auG auH auI auJ auK auL auM auN auO auP auQ auR auS auT auU auV auW auX auY auZ au0 au1 au2 au3 au4 au6 au7 au8 au9 ava avb avc ave avf avg avh avi avj avk avl avm avn avp avq avr avs avt avu avv avw avx avy asa asb asc asd ase asf ash asi asj asl asm asn aso asp asq ass ast asu asv asw asx asy asz asB asC asD asE asF asG asH asI asJ asL asM asN asO asP asQ asR asS asT asU asW asX asY asZ as0 as1 as2 as3 as4 as5 as7 as8 as9 ata atb atc atd atf atg ath ati atj atk atl atm ato atp atq atr ats att atu atv atw aty atz atA atB atC atD atG atH atI atJ atK atL atM atO atP atQ atS atU atV atW atX atY atZ at0 at2 at3 at4 at5 at6 at7 aua auc aud aue auf aug auh aui auj aul aum aun azI az3 aAc aAf aAw azJ azQ azV azW azZ az5 az6 az9 aAa aAb aAd aAe aAg aAh aAi aAj aAk aAl aAm aAn aAo aAp aAq aAr aAs aAt aAu aAv aAx aAy aAz aAA aAB azn azo azp azq azr azs azt azu azv azw azx azy azz azA azB azC azD azE azF azG azH azK azL azM azN azO azP azR azS azT azU azX azY az0 az1 az2 az4 az7 az8 awJ awK awL awM awU awV awW awX aw0 aw1 aw2 aw3 aw4 aw5 aw6 aw7 aw8 aw9 axa axb axc axd axe axf axg axh axi axj axk axl axm axn axo axp axq axr axs axt axu axv avz avA avB avC avD avE avF avG avH avI avJ avK avL avM avN avO avP avQ avR avS avT avU avV avW avX avY avZ av0 av1 av2 av3 av4 av5 av6 av7 av8 av9 awa awb awc awd awe awf awg awh awi awj awk awl awm awn awo awp awq awr aws awt awu awv aww awx awy awz awA awB awC awD awE awF awG awH awI awN awO awP awQ awR awS awT awY awZ
theorem aFu{p:Prop}(h:p:=by first | exact iH rfl rfl rfl | exact hc rfl rfl rfl | exact ma rfl rfl rfl | exact ru rfl rfl | exact Ld rfl rfl rfl | exact vw rfl rfl rfl | exact HS rfl rfl rfl | exact pf rfl rfl rfl | exact yW rfl rfl rfl | exact RW rfl rfl rfl | exact sd rfl a9.out rfl rfl | exact Lg rfl a9.out rfl rfl | exact adw rfl rfl rfl | exact adN rfl rfl rfl | exact RS rfl a9.out rfl rfl | exact RX rfl a9.out rfl rfl | exact adB rfl (by decide) rfl rfl | exact Lc rfl rfl rfl | exact Lh rfl rfl rfl | exact R6 rfl rfl rfl | exact acR rfl rfl rfl | exact RZ rfl rfl | exact adT rfl rfl rfl (by decide) | exact adU rfl rfl rfl (by decide) | exact adv rfl a9.out rfl rfl | exact adM rfl a9.out rfl rfl | exact adu rfl a9.out rfl | exact RY rfl a9.out rfl | exact adQ rfl rfl rfl | exact adP rfl rfl rfl | exact adO rfl rfl | exact Cj rfl (Gu _ _) rfl rfl | exact Ck rfl (Gu _ _) rfl rfl | exact Cj rfl (Gv _ _) rfl rfl | exact Ck rfl (Gv _ _) rfl rfl | exact Cj rfl (Jz _ _) rfl rfl | exact Ck rfl (Jz _ _) rfl rfl):p:=h
theorem aFk{p:Prop}(h:p:=by first | exact mb rfl rfl | exact mb rfl (Eq.trans rfl (congrArg Value.pointer (by assumption)))):p:=h
theorem aFl{p:Prop}(h:p:=by first | exact wY rfl rfl rfl | exact ady rfl rfl):p:=h
theorem aFm{p:Prop}(h:p:=by first | exact hX rfl rfl (nf.it (by assumption)) rfl | exact iS rfl rfl (nf.it (by assumption)) rfl | exact adS rfl rfl rfl rfl | exact adR rfl rfl rfl rfl | exact mD rfl rfl rfl rfl | exact m3 rfl rfl rfl rfl):p:=h
theorem aFt{p:Prop}(h:p:=by first | exact jV rfl a9.out rfl | exact adq rfl a9.out rfl | exact adI rfl a9.out rfl | exact Lf rfl rfl rfl | exact adL rfl rfl rfl):p:=h
theorem aFn{p:Prop}(h:p:=by first | exact RQ rfl rfl | exact adk rfl | exact adm rfl rfl | exact RE rfl | exact acS rfl rfl | exact EJ rfl | exact HR rfl | exact ac0 rfl | exact ac2 rfl rfl | exact ac4 rfl rfl | exact RJ rfl rfl | exact ac9 rfl rfl | exact ada rfl rfl | exact adb rfl | exact RN rfl rfl | exact yU rfl rfl | exact ade rfl | exact adg rfl | exact RM rfl rfl rfl | exact RR rfl rfl rfl | exact ado rfl rfl rfl | exact adp rfl rfl rfl | exact acT rfl rfl rfl | exact acV rfl rfl rfl | exact acW rfl rfl rfl | exact RI rfl rfl rfl | exact acY rfl rfl rfl | exact acZ rfl rfl rfl | exact ac3 rfl rfl rfl | exact ac5 rfl rfl rfl | exact ac6 rfl rfl rfl | exact ac7 rfl rfl rfl | exact ac8 rfl rfl rfl | exact RK rfl rfl rfl | exact adf rfl rfl rfl | exact RP rfl rfl rfl rfl | exact adh rfl rfl rfl rfl | exact RF rfl rfl rfl rfl | exact acU rfl rfl rfl rfl | exact RG rfl rfl rfl rfl | exact RL rfl rfl rfl rfl | exact RO rfl rfl rfl rfl rfl | exact adi rfl rfl rfl rfl rfl | exact adj rfl rfl rfl rfl rfl | exact adl rfl rfl rfl rfl rfl | exact acX rfl rfl rfl rfl rfl | exact ac1 rfl rfl rfl rfl rfl | exact adn rfl rfl rfl rfl rfl rfl | exact RH rfl rfl rfl rfl rfl rfl rfl):p:=h
theorem aFp{p:Prop}(h:p:=by first | exact adC rfl a9.out rfl rfl a9.out rfl rfl rfl | exact adD rfl a9.out rfl rfl a9.out rfl rfl eC.out rfl):p:=h
theorem aFr{p:Prop}(h:p:=by first | exact RU rfl rfl):p:=h
theorem aFj{p:Prop}(h:p:=by first | exact cQ rfl rfl | exact Ci rfl rfl):p:=h
theorem aFo{p:Prop}(h:p:=by first | exact uf rfl a9.out a9.out rfl | exact q_cvtS rfl a9.out a9.out rfl):p:=h
theorem aFq{p:Prop}(h:p:=by first | exact RV rfl rfl rfl | exact yV rfl a9.out rfl rfl):p:=h
theorem aFs{p:Prop}(h:p:=by first | exact adz rfl YX rfl | exact RT rfl OL rfl):p:=h
theorem Lk{p:Prop}(h:p:=by first | exact hk 9 (.refl 9) aFu | exact hk 1 (.refl 1) aFk | exact hk 10 (.refl 10) aFl | exact hk 11 (.refl 11) aFm | exact hk 7 (.refl 7) aFt | exact hk 12 (.refl 12) aFn | exact hk 15 (.refl 15) aFp | exact hk 2 (.refl 2) aFr | exact hk 0 (.refl 0) aFj | exact hk 14 (.refl 14) aFo | exact hk 19 (.refl 19) aFq | exact hk 5 (.refl 5) aFs):p:=h
theorem aFD{p:Prop}(h:p:=by first | exact R0 rfl rfl rfl F | exact R1 rfl rfl rfl F | exact Li rfl rfl rfl F | exact R3 rfl rfl rfl F | exact adr rfl rfl rfl F | exact adA rfl rfl rfl rfl F):p:=h
theorem aFv{p:Prop}(h:p:=by first | exact mb rfl (Eq.trans rfl (congrArg Value.pointer F))):p:=h
theorem aFC{p:Prop}(h:p:=by first | exact adH rfl a9.out rfl F):p:=h
theorem aFx{p:Prop}(h:p:=by first | exact ks rfl a9.out b1.out rfl rfl F | exact adE rfl a9.out b1.out rfl rfl F | exact adF rfl a9.out rfl rfl F | exact adG rfl a9.out b1.out a9.out rfl (fun _=>rfl) rfl rfl F):p:=h
theorem aFB{p:Prop}(h:p:=by first | exact j9 rfl b1.out rfl F):p:=h
theorem aFw{p:Prop}(h:p:=by first | exact RD rfl a9.out a9.out a9.out rfl F | exact ads rfl a9.out a9.out rfl F):p:=h
theorem aFy{p:Prop}(h:p:=by first | exact Lj rfl a9.out b1.out rfl rfl rfl F | exact adW rfl a9.out b1.out rfl rfl F | exact R4 rfl a9.out b1.out rfl rfl F | exact adV rfl a9.out b1.out rfl F | exact adX rfl a9.out b1.out rfl rfl rfl rfl F | exact R5 rfl a9.out b1.out rfl rfl rfl F | exact ad0 rfl a9.out rfl rfl rfl F | exact adZ rfl a9.out rfl rfl F | exact adY rfl a9.out rfl rfl F):p:=h
theorem aFz{p:Prop}(h:p:=by first | exact adK rfl a9.out a9.out (by exact eC.out) rfl rfl F | exact adJ rfl a9.out a9.out (by exact eC.out) rfl rfl F):p:=h
theorem aFA{p:Prop}(h:p:=by first | exact RC rfl ⟨_,a9.out,by rfl⟩ eC.out rfl F | exact adt rfl rfl F):p:=h
theorem s_{p:Prop}(h:p:=by first | exact hk 9 (.refl 9) aFD | exact hk 1 (.refl 1) aFv | exact hk 7 (.refl 7) aFC | exact hk 16 (.refl 16) aFx | exact hk 3 (.refl 3) aFB | exact hk 14 (.refl 14) aFw | exact hk 17 (.refl 17) aFy | exact hk 18 (.refl 18) aFz | exact hk 19 (.refl 19) aFA):p:=h
theorem a1{p:Prop}(h:p:=by first | exact (da R :) | exact (da (aj8 R) :) | exact rfl):p:=h
theorem aFg{p:Prop}(h:p:=by first | exact iH rfl a1 a1 | exact hc rfl a1 a1 | exact ma rfl a1 a1 | exact ru rfl a1 | exact Ld rfl a1 a1 | exact vw rfl a1 a1 | exact HS rfl a1 a1 | exact pf rfl a1 a1 | exact yW rfl a1 a1 | exact RW rfl a1 a1 | exact sd rfl a9.out a1 a1 | exact Lg rfl a9.out a1 a1 | exact adw rfl a1 a1 | exact adN rfl a1 a1 | exact RS rfl a9.out a1 a1 | exact RX rfl a9.out a1 a1 | exact adB rfl (by decide) a1 a1 | exact Lc rfl a1 a1 | exact Lh rfl a1 a1 | exact R6 rfl a1 a1 | exact acR rfl a1 a1 | exact RZ rfl a1 | exact adT rfl a1 a1 (by decide) | exact adU rfl a1 a1 (by decide) | exact adv rfl a9.out a1 a1 | exact adM rfl a9.out a1 a1 | exact adu rfl a9.out a1 | exact RY rfl a9.out a1 | exact adQ rfl rfl a1 | exact adP rfl rfl a1 | exact adO rfl a1 | exact Cj rfl (Gu _ _) a1 a1 | exact Ck rfl (Gu _ _) a1 a1 | exact Cj rfl (Gv _ _) a1 a1 | exact Ck rfl (Gv _ _) a1 a1 | exact Cj rfl (Jz _ _) a1 a1 | exact Ck rfl (Jz _ _) a1 a1):p:=h
theorem aE6{p:Prop}(h:p:=by first | exact mb rfl a1):p:=h
theorem aE7{p:Prop}(h:p:=by first | exact wY rfl a1 rfl | exact ady rfl a1):p:=h
theorem aE8{p:Prop}(h:p:=by first | exact aE4 R rfl rfl rfl rfl | exact HT R rfl rfl rfl rfl | exact hX rfl a1 (nf.it (by assumption)) a1 | exact iS rfl a1 (nf.it (by assumption)) a1 | exact adS rfl a1 a1 a1 | exact adR rfl a1 a1 a1 | exact mD rfl a1 a1 a1 | exact m3 rfl a1 a1 a1):p:=h
theorem aFf{p:Prop}(h:p:=by first | exact jV rfl a9.out a1 | exact adq rfl a9.out a1 | exact adI rfl a9.out a1 | exact Lf rfl a1 a1 | exact adL rfl a1 a1):p:=h
theorem aE9{p:Prop}(h:p:=by first | exact RQ rfl a1 | exact adk rfl | exact adm rfl a1 | exact RE rfl | exact acS rfl a1 | exact EJ rfl | exact HR rfl | exact ac0 rfl | exact ac2 rfl a1 | exact ac4 rfl a1 | exact RJ rfl a1 | exact ac9 rfl a1 | exact ada rfl a1 | exact adb rfl | exact RN rfl a1 | exact yU rfl a1 | exact ade rfl | exact adg rfl | exact RM rfl a1 a1 | exact RR rfl a1 a1 | exact ado rfl a1 a1 | exact adp rfl a1 a1 | exact acT rfl a1 a1 | exact acV rfl a1 a1 | exact acW rfl a1 a1 | exact RI rfl a1 a1 | exact acY rfl a1 a1 | exact acZ rfl a1 a1 | exact ac3 rfl a1 a1 | exact ac5 rfl a1 a1 | exact ac6 rfl a1 a1 | exact ac7 rfl a1 a1 | exact ac8 rfl a1 a1 | exact RK rfl a1 a1 | exact adf rfl a1 a1 | exact RP rfl a1 a1 a1 | exact adh rfl a1 a1 a1 | exact RF rfl a1 a1 a1 | exact acU rfl a1 a1 a1 | exact RG rfl a1 a1 a1 | exact RL rfl a1 a1 a1 | exact RO rfl a1 a1 a1 a1 | exact adi rfl a1 a1 a1 a1 | exact adj rfl a1 a1 a1 a1 | exact adl rfl a1 a1 a1 a1 | exact acX rfl a1 a1 a1 a1 | exact ac1 rfl a1 a1 a1 a1 | exact adn rfl a1 a1 a1 a1 a1 | exact RH rfl a1 a1 a1 a1 a1 a1):p:=h
theorem aFb{p:Prop}(h:p:=by first | exact adC rfl a9.out rfl rfl a9.out rfl a1 rfl | exact adD rfl a9.out rfl rfl a9.out rfl a1 eC.out rfl):p:=h
theorem aFd{p:Prop}(h:p:=by first | exact RU rfl a1):p:=h
theorem aE5{p:Prop}(h:p:=by first | exact cQ rfl a1 | exact Ci rfl a1):p:=h
theorem aFa{p:Prop}(h:p:=by first | exact uf rfl a9.out a9.out a1 | exact q_cvtS rfl a9.out a9.out a1):p:=h
theorem aFc{p:Prop}(h:p:=by first | exact RV rfl rfl rfl | exact yV rfl a9.out rfl a1):p:=h
theorem aFe{p:Prop}(h:p:=by first | exact adz rfl YX a1 | exact RT rfl OL a1):p:=h
theorem jn{p:Prop}(h:p:=by first | exact hk 9 (.refl 9) aFg | exact hk 1 (.refl 1) aE6 | exact hk 10 (.refl 10) aE7 | exact hk 11 (.refl 11) aE8 | exact hk 7 (.refl 7) aFf | exact hk 12 (.refl 12) aE9 | exact hk 15 (.refl 15) aFb | exact hk 2 (.refl 2) aFd | exact hk 0 (.refl 0) aE5 | exact hk 14 (.refl 14) aFa | exact hk 19 (.refl 19) aFc | exact hk 5 (.refl 5) aFe):p:=h
theorem aFM{p:Prop}(h:p:=by first | exact R0 rfl a1 a1 F | exact R1 rfl a1 a1 F | exact Li rfl a1 a1 F | exact R3 rfl a1 a1 F | exact adr rfl a1 a1 F | exact adA rfl rfl a1 a1 F):p:=h
theorem aFE{p:Prop}(h:p:=by first | exact mb rfl (Eq.trans a1 (congrArg Value.pointer F))):p:=h
theorem aFL{p:Prop}(h:p:=by first | exact adH rfl a9.out a1 F):p:=h
theorem aFG{p:Prop}(h:p:=by first | exact ks rfl a9.out b1.out a1 a1 F | exact adE rfl a9.out b1.out a1 a1 F | exact adF rfl a9.out a1 a1 F | exact adG rfl a9.out b1.out a9.out rfl (fun _=>rfl) a1 a1 F):p:=h
theorem aFK{p:Prop}(h:p:=by first | exact j9 rfl b1.out a1 F):p:=h
theorem aFF{p:Prop}(h:p:=by first | exact RD rfl a9.out a9.out a9.out a1 F | exact ads rfl a9.out a9.out a1 F):p:=h
theorem aFH{p:Prop}(h:p:=by first | exact Lj rfl a9.out b1.out a1 a1 a1 F | exact adW rfl a9.out b1.out a1 a1 F | exact R4 rfl a9.out b1.out a1 a1 F | exact adV rfl a9.out b1.out a1 F | exact adX rfl a9.out b1.out a1 a1 a1 a1 F | exact R5 rfl a9.out b1.out a1 a1 a1 F | exact ad0 rfl a9.out a1 a1 a1 F | exact adZ rfl a9.out a1 a1 F | exact adY rfl a9.out a1 a1 F):p:=h
theorem aFI{p:Prop}(h:p:=by first | exact adK rfl a9.out a9.out (by exact eC.out) a1 a1 F | exact adJ rfl a9.out a9.out (by exact eC.out) a1 a1 F):p:=h
theorem aFJ{p:Prop}(h:p:=by first | exact RC rfl ⟨_,a9.out,by rfl⟩ eC.out a1 F | exact adt rfl a1 F):p:=h
theorem kG{p:Prop}(h:p:=by first | exact hk 9 (.refl 9) aFM | exact hk 1 (.refl 1) aFE | exact hk 7 (.refl 7) aFL | exact hk 16 (.refl 16) aFG | exact hk 3 (.refl 3) aFK | exact hk 14 (.refl 14) aFF | exact hk 17 (.refl 17) aFH | exact hk 18 (.refl 18) aFI | exact hk 19 (.refl 19) aFJ):p:=h
theorem mG{p:Prop}(h:p:=by repeat first | with_reducible exact rfl | refine aP ?_ rfl):p:=h
theorem eG{p:Prop}(h:p:=by first | exact .free rfl | exact .az _ _ _ _ rfl rfl rfl (nf.it (by assumption))):p:=h
theorem bk{p:Prop} (h:p:=by
 repeat' first
  |(refine aAD ?_; first
   |(refine Qm 0 (.refl 0) ?_; first
    |refine aHO rfl ?_
    |first
    |(refine pL 3 (.refl 3) ?_; refine anK rfl b1.out h rfl (fun x F h=>?_))
    |(refine pL 1 (.refl 1) ?_; refine anL rfl h rfl (fun x F h=>?_))
    |(refine pL 2 (.refl 2) ?_; refine aJq rfl rfl ?_)
    |(refine pL 5 (.refl 5) ?_; refine anJ rfl IV.out h rfl (fun r w h=>?_))
    |(refine pL 4 (.refl 4) ?_; refine anM rfl b1.out h rfl rfl (fun w h=>?_))
    |(refine pL 13 (.refl 13) ?_; refine anI rfl b1.out eC.out h (fun x w h=>?_))
    |refine aeX rfl rfl rfl Lk ?_
    |refine DK h fun x F h=>aeX rfl rfl rfl s_ ?_
    |first
    |(refine pL 7 (.refl 7) ?_; first |refine en rfl eG (Is rfl rfl a9.out ⟨_,a9.out⟩ b1.out eC.out rfl rfl (Nat.lt_of_lt_of_le Nat.zero_lt_one (Nat.le_of_ble_eq_true rfl)) rfl rfl h (fun r w h=>?_)) |refine en rfl eG (S_ rfl rfl a9.out a9.out b1.out eC.out rfl rfl h (fun r w h=>?_)) |refine en rfl eG (Ta rfl rfl a9.out b1.out eC.out rfl h (fun w h=>?_)) |refine en rfl eG (Te rfl rfl a9.out rfl h (fun w h=>?_)) |refine en rfl eG (Tf rfl rfl a9.out a9.out rfl rfl h (fun w h=>?_)) |refine en rfl eG (Td rfl rfl a9.out b1.out rfl rfl h (fun r w h=>?_)))
    |(refine pL 6 (.refl 6) ?_; first |refine en rfl eG (Tb rfl rfl rfl rfl h (fun r w h=>?_)) |refine en rfl eG (Tc rfl rfl rfl rfl h (fun r w h=>?_)))
    |(refine pL 14 (.refl 14) ?_; first |refine en rfl eG (Tk rfl rfl a9.out a9.out a9.out rfl h (fun r w h=>?_)) |refine en rfl eG (Th rfl rfl a9.out a9.out rfl h (fun w h=>?_)))
    |(refine pL 20 (.refl 20) ?_; first |refine en rfl eG (E3 rfl (.inl rfl) a9.out a9.out rfl rfl rfl h (fun w h=>?_)) |refine en rfl eG (E3 rfl (.inr rfl) a9.out a9.out rfl rfl rfl h (fun w h=>?_)) |refine en rfl eG (Tg rfl rfl a9.out b1.out eC.out rfl rfl h (fun r w h=>?_)) |refine en rfl eG (Tj rfl rfl a9.out rfl h (fun r w h=>?_)) |refine en rfl eG (Ti rfl rfl rfl h (fun r w h=>?_)) |(obtain⟨a,w,Y,hw,h⟩:=Et h; refine vE rfl eG rfl (Ak rfl a9.out b1.out eC.out rfl (by decide) (by decide) rfl Y hw) ?_) |(obtain⟨a,w,Y,hw,h⟩:=F_ h; refine vE rfl eG rfl (Ak rfl a9.out b1.out eC.out rfl (by decide) (by decide) rfl Y hw) ?_) |(obtain⟨a,w,Y,hw,h⟩:=Et h; refine vE rfl eG rfl (R2 rfl a9.out b1.out eC.out Y hw) ?_) |(obtain⟨a,w,Y,hw,h⟩:=KU h; refine vE rfl eG rfl (Le rfl Y hw) ?_) |(obtain⟨a,w,Y,hw,h⟩:=pR h; refine vE rfl eG rfl (ue rfl b1.out rfl Y hw) ?_)))
   |refine aHN rfl ?_
   |refine aHQ rfl rfl rfl rfl (by assumption) ?_
   |refine aHP rfl rfl rfl rfl ?_
   |refine aeW rfl rfl rfl rfl (by assumption) rfl Lk ?_
   |refine DK h fun x F h=>aeW rfl rfl rfl rfl (by assumption) rfl s_ ?_
   |(have _:=@o8; first |(refine o8 rfl ?_ (fun s g w h=>?_); refine pV h (fun Y h=>?_) (fun Y h=>?_)) |(refine QB rfl ?_ (fun s g w h=>?_); refine pV h (fun Y h=>?_) (fun Y h=>?_)) |(refine aBl rfl ?_ (fun s g w h=>?_); refine pV h (fun Y h=>?_) (fun Y h=>?_)) |(refine aBm rfl ?_ (fun s g w h=>?_); refine pV h (fun Y h=>?_) (fun Y h=>?_)) |(refine aBn rfl ?_ (fun s g w h=>?_); refine pV h (fun Y h=>?_) (fun Y h=>?_)) |(refine aBo rfl ?_ (fun s g w h=>?_); refine pV h (fun Y h=>?_) (fun Y h=>?_)) |(refine aBp rfl ?_ (fun s g w h=>?_); refine pV h (fun Y h=>?_) (fun Y h=>?_)) |(refine aBq rfl ?_ (fun s g w h=>?_); refine pV h (fun Y h=>?_) (fun Y h=>?_)))
   |refine aFV rfl rfl rfl rfl h (fun Y h=>?_) (fun Y h=>?_)
   |(refine Qm 1 (.refl 1) ?_; first
    |refine Aw rfl (xS rfl rfl rfl) rfl (fun R=>jn) ?_
    |refine DK h fun x F h=>Aw rfl (xS rfl rfl rfl) rfl (fun R=>have F:=F R; kG) ?_
    |refine Aw rfl (xT rfl rfl rfl) rfl (fun R=>jn) ?_
    |refine DK h fun x F h=>Aw rfl (xT rfl rfl rfl) rfl (fun R=>have F:=F R; kG) ?_)
   |(refine Qm 2 (.refl 2) ?_; first
    |refine Aw rfl (xR rfl rfl rfl) rfl (fun R=>jn) ?_
    |refine DK h fun x F h=>Aw rfl (xR rfl rfl rfl) rfl (fun R=>have F:=F R; kG) ?_
    |refine Aw rfl (xQ rfl rfl rfl) rfl (fun R=>jn) ?_
    |refine DK h fun x F h=>Aw rfl (xQ rfl rfl rfl) rfl (fun R=>have F:=F R; kG) ?_)
   |first
    |(refine pL 5 (.refl 5) ?_; refine en rfl eG (gR rfl (fR rfl IV.out rfl) h (fun r w h=>?_)))
    |(refine pL 4 (.refl 4) ?_; (obtain⟨w,hw,ab,h⟩:=sm h; refine aei (d:=none) rfl eG rfl (se rfl b1.out rfl rfl ab hw) ?_))
    |(refine pL 13 (.refl 13) ?_; (obtain⟨a,w,Y,hw,h⟩:=pR h; refine vE rfl eG rfl (HQ rfl b1.out (by exact eC.out) Y hw) ?_))
    |(refine pL 7 (.refl 7) ?_; first |refine en rfl eG (Is rfl rfl a9.out ⟨_,a9.out⟩ b1.out eC.out rfl rfl (Nat.lt_of_lt_of_le Nat.zero_lt_one (Nat.le_of_ble_eq_true rfl)) rfl rfl h (fun r w h=>?_)) |refine en rfl eG (S_ rfl rfl a9.out a9.out b1.out eC.out rfl rfl h (fun r w h=>?_)) |refine en rfl eG (Ta rfl rfl a9.out b1.out eC.out rfl h (fun w h=>?_)) |refine en rfl eG (Te rfl rfl a9.out rfl h (fun w h=>?_)) |refine en rfl eG (Tf rfl rfl a9.out a9.out rfl rfl h (fun w h=>?_)) |refine en rfl eG (Td rfl rfl a9.out b1.out rfl rfl h (fun r w h=>?_)))
    |(refine pL 6 (.refl 6) ?_; first |refine en rfl eG (Tb rfl rfl rfl rfl h (fun r w h=>?_)) |refine en rfl eG (Tc rfl rfl rfl rfl h (fun r w h=>?_)))
    |(refine pL 14 (.refl 14) ?_; first |refine en rfl eG (Tk rfl rfl a9.out a9.out a9.out rfl h (fun r w h=>?_)) |refine en rfl eG (Th rfl rfl a9.out a9.out rfl h (fun w h=>?_)))
    |(refine pL 20 (.refl 20) ?_; first |refine en rfl eG (E3 rfl (.inl rfl) a9.out a9.out rfl rfl rfl h (fun w h=>?_)) |refine en rfl eG (E3 rfl (.inr rfl) a9.out a9.out rfl rfl rfl h (fun w h=>?_)) |refine en rfl eG (Tg rfl rfl a9.out b1.out eC.out rfl rfl h (fun r w h=>?_)) |refine en rfl eG (Tj rfl rfl a9.out rfl h (fun r w h=>?_)) |refine en rfl eG (Ti rfl rfl rfl h (fun r w h=>?_)) |(obtain⟨a,w,Y,hw,h⟩:=Et h; refine vE rfl eG rfl (Ak rfl a9.out b1.out eC.out rfl (by decide) (by decide) rfl Y hw) ?_) |(obtain⟨a,w,Y,hw,h⟩:=F_ h; refine vE rfl eG rfl (Ak rfl a9.out b1.out eC.out rfl (by decide) (by decide) rfl Y hw) ?_) |(obtain⟨a,w,Y,hw,h⟩:=Et h; refine vE rfl eG rfl (R2 rfl a9.out b1.out eC.out Y hw) ?_) |(obtain⟨a,w,Y,hw,h⟩:=KU h; refine vE rfl eG rfl (Le rfl Y hw) ?_) |(obtain⟨a,w,Y,hw,h⟩:=pR h; refine vE rfl eG rfl (ue rfl b1.out rfl Y hw) ?_))
   |(have _:=@o8; first |(refine o8 rfl ?_ (fun s g w h=>?_); refine pV h (fun Y h=>?_) (fun Y h=>?_)) |(refine QB rfl ?_ (fun s g w h=>?_); refine pV h (fun Y h=>?_) (fun Y h=>?_)) |(refine aBl rfl ?_ (fun s g w h=>?_); refine pV h (fun Y h=>?_) (fun Y h=>?_)) |(refine aBm rfl ?_ (fun s g w h=>?_); refine pV h (fun Y h=>?_) (fun Y h=>?_)) |(refine aBn rfl ?_ (fun s g w h=>?_); refine pV h (fun Y h=>?_) (fun Y h=>?_)) |(refine aBo rfl ?_ (fun s g w h=>?_); refine pV h (fun Y h=>?_) (fun Y h=>?_)) |(refine aBp rfl ?_ (fun s g w h=>?_); refine pV h (fun Y h=>?_) (fun Y h=>?_)) |(refine aBq rfl ?_ (fun s g w h=>?_); refine pV h (fun Y h=>?_) (fun Y h=>?_)))
   |refine pV h (fun Y h=>?_) (fun Y h=>?_)
   |exact aCE (by assumption) |exact aCF (by assumption))
  |(refine ar6 ?_; first
   |refine akS rfl rfl ?_
   |(have _:=@fY; first |refine fY rfl rfl h mixed rfl (by kernel_rfl) (by intro c a d v w h; cases d<;>exact h) (fun w h ak=>?_) |refine rQ rfl rfl h mixed rfl (by kernel_rfl) (by intro c a d v w h; cases d<;>exact h) (fun w h ak=>?_) |refine DA rfl rfl h mixed rfl (by kernel_rfl) (by intro c a d v w h; cases d<;>exact h) (fun w h ak=>?_) |refine amc rfl rfl h mixed rfl (by kernel_rfl) (by intro c a d v w h; cases d<;>exact h) (fun w h ak=>?_) |refine aJR rfl rfl h mixed rfl (by kernel_rfl) (by intro c a d v w h; cases d<;>exact h) (fun w h ak=>?_) |refine aJS rfl rfl h mixed rfl (by kernel_rfl) (by intro c a d v w h; cases d<;>exact h) (fun w h ak=>?_) |refine aJT rfl rfl h mixed rfl (by kernel_rfl) (by intro c a d v w h; cases d<;>exact h) (fun w h ak=>?_) |refine aJU rfl rfl h mixed rfl (by kernel_rfl) (by intro c a d v w h; cases d<;>exact h) (fun w h ak=>?_) |refine aJV rfl rfl h mixed rfl (by kernel_rfl) (by intro c a d v w h; cases d<;>exact h) (fun w h ak=>?_) |refine aJG rfl rfl h mixed rfl (by kernel_rfl) (by intro c a d v w h; cases d<;>exact h) (fun w h ak=>?_) |refine aJH rfl rfl h mixed rfl (by kernel_rfl) (by intro c a d v w h; cases d<;>exact h) (fun w h ak=>?_) |refine aJI rfl rfl h mixed rfl (by kernel_rfl) (by intro c a d v w h; cases d<;>exact h) (fun w h ak=>?_) |refine aJJ rfl rfl h mixed rfl (by kernel_rfl) (by intro c a d v w h; cases d<;>exact h) (fun w h ak=>?_) |refine aJK rfl rfl h mixed rfl (by kernel_rfl) (by intro c a d v w h; cases d<;>exact h) (fun w h ak=>?_) |refine aJL rfl rfl h mixed rfl (by kernel_rfl) (by intro c a d v w h; cases d<;>exact h) (fun w h ak=>?_) |refine aJM rfl rfl h mixed rfl (by kernel_rfl) (by intro c a d v w h; cases d<;>exact h) (fun w h ak=>?_) |refine aJN rfl rfl h mixed rfl (by kernel_rfl) (by intro c a d v w h; cases d<;>exact h) (fun w h ak=>?_) |refine aJO rfl rfl h mixed rfl (by kernel_rfl) (by intro c a d v w h; cases d<;>exact h) (fun w h ak=>?_) |refine aJP rfl rfl h mixed rfl (by kernel_rfl) (by intro c a d v w h; cases d<;>exact h) (fun w h ak=>?_) |refine aJQ rfl rfl h mixed rfl (by kernel_rfl) (by intro c a d v w h; cases d<;>exact h) (fun w h ak=>?_))
   |refine akN rfl h rfl (fun ao h=>?_) (fun ao h=>?_)
   |(have _:=@iE; first |refine iE rfl rfl ?_ (fun s g w h=>?_) |refine Hm rfl rfl ?_ (fun s g w h=>?_) |refine aBk rfl rfl ?_ (fun s g w h=>?_) |refine aKx rfl rfl ?_ (fun s g w h=>?_) |refine aKy rfl rfl ?_ (fun s g w h=>?_) |refine aKz rfl rfl ?_ (fun s g w h=>?_) |refine aKA rfl rfl ?_ (fun s g w h=>?_) |refine aKB rfl rfl ?_ (fun s g w h=>?_) |refine aKC rfl rfl ?_ (fun s g w h=>?_) |refine aKi rfl rfl ?_ (fun s g w h=>?_) |refine aKj rfl rfl ?_ (fun s g w h=>?_) |refine aKk rfl rfl ?_ (fun s g w h=>?_) |refine aKl rfl rfl ?_ (fun s g w h=>?_) |refine aKm rfl rfl ?_ (fun s g w h=>?_) |refine aKn rfl rfl ?_ (fun s g w h=>?_) |refine aKo rfl rfl ?_ (fun s g w h=>?_) |refine aKp rfl rfl ?_ (fun s g w h=>?_) |refine aKq rfl rfl ?_ (fun s g w h=>?_) |refine aKr rfl rfl ?_ (fun s g w h=>?_) |refine aKs rfl rfl ?_ (fun s g w h=>?_) |refine aKt rfl rfl ?_ (fun s g w h=>?_) |refine aKu rfl rfl ?_ (fun s g w h=>?_) |refine aKv rfl rfl ?_ (fun s g w h=>?_) |refine aKw rfl rfl ?_ (fun s g w h=>?_))
   |refine wg rfl ?_
   |(refine Gh rfl ?_; first |exact lZ h rfl rfl |exact Tt h rfl rfl |exact Iz h rfl rfl |exact aGu h rfl rfl |exact aGt h rfl)
   |refine akL rfl ?_
   |refine akM rfl ?_
   |refine akQ rfl rfl ?_
   |refine akT rfl rfl ?_
   |refine akO rfl ?_
   |refine akP rfl ?_
   |refine akR rfl ?_
   |(have _:=@iQ; first |refine iQ rfl rfl h mG (fun s g w aa h=>?_) |refine Eh rfl rfl h mG (fun s g w aa h=>?_) |refine abz rfl rfl h mG (fun s g w aa h=>?_) |refine aCe rfl rfl h mG (fun s g w aa h=>?_) |refine aKL rfl rfl h mG (fun s g w aa h=>?_) |refine aKM rfl rfl h mG (fun s g w aa h=>?_) |refine aKN rfl rfl h mG (fun s g w aa h=>?_) |refine aKO rfl rfl h mG (fun s g w aa h=>?_) |refine aKP rfl rfl h mG (fun s g w aa h=>?_) |refine aKE rfl rfl h mG (fun s g w aa h=>?_) |refine aKF rfl rfl h mG (fun s g w aa h=>?_) |refine aKG rfl rfl h mG (fun s g w aa h=>?_) |refine aKH rfl rfl h mG (fun s g w aa h=>?_) |refine aKI rfl rfl h mG (fun s g w aa h=>?_) |refine aKJ rfl rfl h mG (fun s g w aa h=>?_) |refine aKK rfl rfl h mG (fun s g w aa h=>?_))
   |(refine Gh rfl ?_; refine DJ h fun x F h=>?_; exact n4 rfl (.cons (.cell b1.out rfl F) .nil) ⟨_,rfl,h⟩)
   |(refine Gh rfl ?_; refine DJ h fun x F h=>DJ h fun S aB h=>?_; exact n4 rfl (.cons (.cell b1.out rfl F) (.cons (.cell b1.out rfl aB) .nil)) ⟨(_,_),rfl,h⟩)
   |(refine Gh rfl ?_; refine DJ h fun x F h=>?_; exact n4 rfl (.cons (.cell b1.out rfl F) (.cons (.tmp rfl) .nil)) ⟨(_,_),rfl,h⟩)
   |(refine Gh rfl ?_; refine DJ h fun x F h=>?_; exact n4 rfl (.cons (.tmp rfl) (.cons (.cell b1.out rfl F) .nil)) ⟨(_,_),rfl,h⟩))
  |(refine ar7 ?_; first
   |(refine Qz 0 rfl (.refl 0) ?_; first
    |(refine aBh 3 (.refl 3) ?_; refine aJe rfl rfl h ak rfl (by kernel_rfl) (by kernel_rfl) (fun x F h=>?_))
    |refine iP h fun x F h=>afR rfl rfl rfl rfl ak (fun _=>s_) ?_ (by kernel_rfl) (by kernel_rfl)
    |refine afR rfl rfl rfl rfl ak (fun _=>Lk) ?_ (by kernel_rfl) (by kernel_rfl)
    |refine iP h fun x F h=>Mb (W:=fun w=>ih _ _ _ _ w _) F rfl rfl rfl rfl ak (fun _ F=>s_) ?_ (by kernel_rfl) (by kernel_rfl)
    |refine iP h fun x F h=>Mb (W:=fun w=>rH _ w _) F rfl rfl rfl rfl ak (fun _ F=>s_) ?_ (by kernel_rfl) (by kernel_rfl)
    |refine iP h fun x F h=>Mb (W:=fun w=>kg _ _ _ w _) F rfl rfl rfl rfl ak (fun _ F=>s_) ?_ (by kernel_rfl) (by kernel_rfl)
    |refine iP h fun x F h=>Mb (W:=fun w=>tl _ w _) F rfl rfl rfl rfl ak (fun _ F=>s_) ?_ (by kernel_rfl) (by kernel_rfl))
   |refine aJb rfl ?_ (by kernel_rfl)
   |refine aJh rfl rfl rfl rfl rfl (by assumption) ak ?_ (by kernel_rfl) (by kernel_rfl)
   |refine aJg rfl rfl rfl rfl rfl ak ?_ (by kernel_rfl) (by kernel_rfl)
   |refine afS rfl rfl rfl rfl rfl (by assumption) rfl ak (fun _=>Lk) ?_ (by kernel_rfl) (by kernel_rfl)
   |refine iP h fun x F h=>afS rfl rfl rfl rfl rfl (by assumption) rfl ak (fun _=>s_) ?_ (by kernel_rfl) (by kernel_rfl)
    |refine iP h fun x F h=>Iv (W:=fun w=>L _ _ w _) F rfl rfl rfl rfl rfl (by assumption) rfl ak (fun _ F=>s_) ?_ (by kernel_rfl) (by kernel_rfl)
    |refine iP h fun x F h=>Iv (W:=fun w=>ih _ _ _ _ w _) F rfl rfl rfl rfl rfl (by assumption) rfl ak (fun _ F=>s_) ?_ (by kernel_rfl) (by kernel_rfl)
    |refine iP h fun x F h=>Iv (W:=fun w=>rH _ w _) F rfl rfl rfl rfl rfl (by assumption) rfl ak (fun _ F=>s_) ?_ (by kernel_rfl) (by kernel_rfl)
    |refine iP h fun x F h=>Iv (W:=fun w=>kg _ _ _ w _) F rfl rfl rfl rfl rfl (by assumption) rfl ak (fun _ F=>s_) ?_ (by kernel_rfl) (by kernel_rfl)
    |refine iP h fun x F h=>Iv (W:=fun w=>tl _ w _) F rfl rfl rfl rfl rfl (by assumption) rfl ak (fun _ F=>s_) ?_ (by kernel_rfl) (by kernel_rfl)
   |refine aJd rfl rfl rfl rfl rfl h (fun Y h=>?_) (fun Y h=>?_)
   |(refine Qz 1 rfl (.refl 1) ?_; first
    |refine AL rfl rfl (xS rfl rfl rfl) rfl ak (fun R _=>jn) ?_ (by kernel_rfl) (by kernel_rfl)
    |refine iP h fun x F h=>AL rfl rfl (xS rfl rfl rfl) rfl ak (fun R _=>have F:=F R; kG) ?_ (by kernel_rfl) (by kernel_rfl)
    |refine iP h fun x F h=>oc (W:=fun w=>L _ _ w _) F rfl rfl (xS rfl rfl rfl) rfl ak (fun R _ F=>kG) ?_ (by kernel_rfl) (by kernel_rfl)
    |refine iP h fun x F h=>oc (W:=fun w=>ih _ _ _ _ w _) F rfl rfl (xS rfl rfl rfl) rfl ak (fun R _ F=>kG) ?_ (by kernel_rfl) (by kernel_rfl)
    |refine iP h fun x F h=>oc (W:=fun w=>rH _ w _) F rfl rfl (xS rfl rfl rfl) rfl ak (fun R _ F=>kG) ?_ (by kernel_rfl) (by kernel_rfl)
    |refine iP h fun x F h=>oc (W:=fun w=>kg _ _ _ w _) F rfl rfl (xS rfl rfl rfl) rfl ak (fun R _ F=>kG) ?_ (by kernel_rfl) (by kernel_rfl)
    |refine iP h fun x F h=>oc (W:=fun w=>tl _ w _) F rfl rfl (xS rfl rfl rfl) rfl ak (fun R _ F=>kG) ?_ (by kernel_rfl) (by kernel_rfl)
    |refine AL rfl rfl (xT rfl rfl rfl) rfl ak (fun R _=>jn) ?_ (by kernel_rfl) (by kernel_rfl)
    |refine iP h fun x F h=>AL rfl rfl (xT rfl rfl rfl) rfl ak (fun R _=>have F:=F R; kG) ?_ (by kernel_rfl) (by kernel_rfl)
    |refine iP h fun x F h=>oc (W:=fun w=>L _ _ w _) F rfl rfl (xT rfl rfl rfl) rfl ak (fun R _ F=>kG) ?_ (by kernel_rfl) (by kernel_rfl)
    |refine iP h fun x F h=>oc (W:=fun w=>ih _ _ _ _ w _) F rfl rfl (xT rfl rfl rfl) rfl ak (fun R _ F=>kG) ?_ (by kernel_rfl) (by kernel_rfl)
    |refine iP h fun x F h=>oc (W:=fun w=>rH _ w _) F rfl rfl (xT rfl rfl rfl) rfl ak (fun R _ F=>kG) ?_ (by kernel_rfl) (by kernel_rfl)
    |refine iP h fun x F h=>oc (W:=fun w=>kg _ _ _ w _) F rfl rfl (xT rfl rfl rfl) rfl ak (fun R _ F=>kG) ?_ (by kernel_rfl) (by kernel_rfl)
    |refine iP h fun x F h=>oc (W:=fun w=>tl _ w _) F rfl rfl (xT rfl rfl rfl) rfl ak (fun R _ F=>kG) ?_ (by kernel_rfl) (by kernel_rfl))
   |(refine Qz 2 rfl (.refl 2) ?_; first
    |refine AL rfl rfl (xR rfl rfl rfl) rfl ak (fun R _=>jn) ?_ (by kernel_rfl) (by kernel_rfl)
    |refine iP h fun x F h=>AL rfl rfl (xR rfl rfl rfl) rfl ak (fun R _=>have F:=F R; kG) ?_ (by kernel_rfl) (by kernel_rfl)
    |refine iP h fun x F h=>oc (W:=fun w=>L _ _ w _) F rfl rfl (xR rfl rfl rfl) rfl ak (fun R _ F=>kG) ?_ (by kernel_rfl) (by kernel_rfl)
    |refine iP h fun x F h=>oc (W:=fun w=>ih _ _ _ _ w _) F rfl rfl (xR rfl rfl rfl) rfl ak (fun R _ F=>kG) ?_ (by kernel_rfl) (by kernel_rfl)
    |refine iP h fun x F h=>oc (W:=fun w=>rH _ w _) F rfl rfl (xR rfl rfl rfl) rfl ak (fun R _ F=>kG) ?_ (by kernel_rfl) (by kernel_rfl)
    |refine iP h fun x F h=>oc (W:=fun w=>kg _ _ _ w _) F rfl rfl (xR rfl rfl rfl) rfl ak (fun R _ F=>kG) ?_ (by kernel_rfl) (by kernel_rfl)
    |refine iP h fun x F h=>oc (W:=fun w=>tl _ w _) F rfl rfl (xR rfl rfl rfl) rfl ak (fun R _ F=>kG) ?_ (by kernel_rfl) (by kernel_rfl)
    |refine AL rfl rfl (xQ rfl rfl rfl) rfl ak (fun R _=>jn) ?_ (by kernel_rfl) (by kernel_rfl)
    |refine iP h fun x F h=>AL rfl rfl (xQ rfl rfl rfl) rfl ak (fun R _=>have F:=F R; kG) ?_ (by kernel_rfl) (by kernel_rfl)
    |refine iP h fun x F h=>oc (W:=fun w=>L _ _ w _) F rfl rfl (xQ rfl rfl rfl) rfl ak (fun R _ F=>kG) ?_ (by kernel_rfl) (by kernel_rfl)
    |refine iP h fun x F h=>oc (W:=fun w=>ih _ _ _ _ w _) F rfl rfl (xQ rfl rfl rfl) rfl ak (fun R _ F=>kG) ?_ (by kernel_rfl) (by kernel_rfl)
    |refine iP h fun x F h=>oc (W:=fun w=>rH _ w _) F rfl rfl (xQ rfl rfl rfl) rfl ak (fun R _ F=>kG) ?_ (by kernel_rfl) (by kernel_rfl)
    |refine iP h fun x F h=>oc (W:=fun w=>kg _ _ _ w _) F rfl rfl (xQ rfl rfl rfl) rfl ak (fun R _ F=>kG) ?_ (by kernel_rfl) (by kernel_rfl)
    |refine iP h fun x F h=>oc (W:=fun w=>tl _ w _) F rfl rfl (xQ rfl rfl rfl) rfl ak (fun R _ F=>kG) ?_ (by kernel_rfl) (by kernel_rfl))
   |refine aJf rfl ?_ (by kernel_rfl)
   |refine aI9 rfl h (fun h=>?_) (fun h=>?_) (by kernel_rfl)
   |refine aJa rfl h (fun h=>?_) (fun h=>?_) (fun h=>?_) (by kernel_rfl)
   |refine aJc h (fun Y h=>?_) (fun Y h=>?_))
  |(refine ar8 ?_; first
   |with_reducible refine aBr h (fun aq h=>?_)
   |refine aBs ?_
   |refine BV (fun h=>yv (by assumption) h) ?_
   |refine BV (fun h R=>yv (by assumption) (h R)) ?_
   |refine BV (fun h=>aBw (by assumption) h) ?_
   |refine BV (fun h=>aBx (by assumption) h) ?_
   |refine BV (fun h=>aBv (by assumption) h) ?_
   |refine BV (fun h=>aBu (by assumption) h) ?_
   |refine BV (fun _=>by assumption) ?_
   |refine aBt ?_ (by kernel_rfl))
  |(refine aAC ?_; first
   |refine lT rfl (.az _ _ _ _ rfl rfl rfl (nf.it (by assumption))) rfl ?_
   |refine lT rfl (.undef _ _ _ rfl rfl rfl) rfl ?_
   |first
    |(refine Cd 5 (.refl 5) ?_; refine hG rfl eG (gR rfl (fR rfl IV.out rfl) h (fun r w h=>?_)))
    |(refine Cd 4 (.refl 4) ?_; (obtain⟨w,hw,ab,h⟩:=sm h; refine ud (d:=none) rfl eG rfl (se rfl b1.out rfl rfl ab hw) ?_))
    |(refine Cd 13 (.refl 13) ?_; (obtain⟨a,w,Y,hw,h⟩:=pR h; refine yT (d:=some _) rfl eG rfl (HQ rfl b1.out (by exact eC.out) Y hw) ?_))
    |(refine Cd 7 (.refl 7) ?_; first |refine hG rfl eG (Is rfl rfl a9.out ⟨_,a9.out⟩ b1.out eC.out rfl rfl (Nat.lt_of_lt_of_le Nat.zero_lt_one (Nat.le_of_ble_eq_true rfl)) rfl rfl h (fun r w h=>?_)) |refine hG rfl eG (S_ rfl rfl a9.out a9.out b1.out eC.out rfl rfl h (fun r w h=>?_)) |refine hG rfl eG (Ta rfl rfl a9.out b1.out eC.out rfl h (fun w h=>?_)) |refine hG rfl eG (Te rfl rfl a9.out rfl h (fun w h=>?_)) |refine hG rfl eG (Tf rfl rfl a9.out a9.out rfl rfl h (fun w h=>?_)) |refine hG rfl eG (Td rfl rfl a9.out b1.out rfl rfl h (fun r w h=>?_)))
    |(refine Cd 6 (.refl 6) ?_; first |refine hG rfl eG (Tb rfl rfl rfl rfl h (fun r w h=>?_)) |refine hG rfl eG (Tc rfl rfl rfl rfl h (fun r w h=>?_)))
    |(refine Cd 14 (.refl 14) ?_; first |refine hG rfl eG (Tk rfl rfl a9.out a9.out a9.out rfl h (fun r w h=>?_)) |refine hG rfl eG (Th rfl rfl a9.out a9.out rfl h (fun w h=>?_)))
    |(refine Cd 20 (.refl 20) ?_; first |refine hG rfl eG (E3 rfl (.inl rfl) a9.out a9.out rfl rfl rfl h (fun w h=>?_)) |refine hG rfl eG (E3 rfl (.inr rfl) a9.out a9.out rfl rfl rfl h (fun w h=>?_)) |refine hG rfl eG (Tg rfl rfl a9.out b1.out eC.out rfl rfl h (fun r w h=>?_)) |refine hG rfl eG (Tj rfl rfl a9.out rfl h (fun r w h=>?_)) |refine hG rfl eG (Ti rfl rfl rfl h (fun r w h=>?_)) |(obtain⟨a,w,Y,hw,h⟩:=Et h; refine yT (d:=some _) rfl eG rfl (Ak rfl a9.out b1.out eC.out rfl (by decide) (by decide) rfl Y hw) ?_) |(obtain⟨a,w,Y,hw,h⟩:=F_ h; refine yT (d:=some _) rfl eG rfl (Ak rfl a9.out b1.out eC.out rfl (by decide) (by decide) rfl Y hw) ?_) |(obtain⟨a,w,Y,hw,h⟩:=Et h; refine yT (d:=some _) rfl eG rfl (R2 rfl a9.out b1.out eC.out Y hw) ?_) |(obtain⟨a,w,Y,hw,h⟩:=KU h; refine yT (d:=some _) rfl eG rfl (Le rfl Y hw) ?_) |(obtain⟨a,w,Y,hw,h⟩:=pR h; refine yT (d:=some _) rfl eG rfl (ue rfl b1.out rfl Y hw) ?_)))
  |exact akk h mG
  |exact akl h mG
  |exact akm h mG
  |exact akn h mG
  |exact ako h mG
  |exact akp h mG
  |exact akj h mG
  |exact amz h rfl):p:=h
abbrev ch:=Nat→Option Obj
def ch.le(a l:ch):Prop:=∀ k G,a k=some G→l k=some G
def ch.off(a l:ch):Prop:=∀ k,a k=none∨l k=none
structure bu where
 p:ch→ch→Prop
 mono:∀ {aV g5 h fp:ch},ch.le aV g5→ch.le h fp→p aV h→p g5 fp
theorem ch.le_refl(a:ch):ch.le a a:=fun _ _ h=>h
theorem ch.le_trans{a l c:ch}(h:ch.le a l)(k:ch.le l c):ch.le a c:=fun x G F=>k x G (h x G F)
theorem ch.Ac{a l c:ch}(h:ch.off a l)(k:ch.le c l):ch.off a c:=fun x=>by
 cases U:c x with
 |none=>exact .inr rfl
 |some G=>exact .inl ((h x).resolve_right (by rw[k x G U]; simp))
theorem ch.abS{a l:ch}(h:ch.off a l):ch.off l a:=fun x=>(h x).symm
def iw:List bu→ch→ch→Prop
 |[],_,_=>True
 |aN::m,aV,h=>∃ I O,ch.off I O∧ch.le I h∧ch.le O h∧aN.p aV I∧iw m aV O
theorem iw.mono:∀ {m:List bu} {aV g5 h fp:ch},ch.le aV g5→ch.le h fp→iw m aV h→iw m g5 fp
 |[],_,_,_,_,_,_,_=>trivial
 |_::_,_,_,_,_,a4,cn,⟨I,O,ai,cI,cL,Y,al⟩=>⟨I,O,ai,(ch.le_trans cI cn),(ch.le_trans cL cn),bu.mono _ a4 (ch.le_refl _) Y,iw.mono a4 (ch.le_refl _) al⟩
def dt(m:List bu):bu:=⟨iw m,iw.mono⟩
def hT{Z:Type}(f:Z→bu):bu:=⟨fun aV h=>∃ x,(f x).p aV h,fun a4 cn ⟨x,F⟩=>⟨x,(f x).mono a4 cn F⟩⟩
def ll(e8:Prop):bu:=⟨fun _ _=>e8,fun _ _ h=>h⟩
def kk(l:Nat)(G:Obj):bu:=⟨fun _ h=>h l=some G,fun _ cn h=>cn l G h⟩
def aI(l:Nat)(a8:List Value)(t:TypeId):bu:=kk l (.cells a8.toArray t)
def rR(e8:ch→Prop)(y:∀ {aV g5:ch},ch.le aV g5→e8 aV→e8 g5):bu:=⟨fun aV _=>e8 aV,fun a4 _ h=>y a4 h⟩
structure E(A:World)(m:List bu)(w:World):Prop where
 os:w.os=A.os
 tape:w.tape=A.tape
 output:w.output=A.output
 size:A.heap.size≤w.heap.size
 mem:∃ aV h:ch,ch.off aV h∧(∀ l G,aV l=some G→w.heap[l]?=some G)∧(∀ l G,h l=some G→w.heap[l]?=some G)∧iw m aV h
section
variable {A w J:World} {m bL:List bu} {aN aS:bu}
theorem E.same(H:E A m w)(ai:J.os=w.os)(aR:J.tape=w.tape)(hu:J.output=w.output)(cn:J.heap=w.heap):E A m J:=
 ⟨ai.trans H.os,aR.trans H.tape,hu.trans H.output,cn▸H.size,by rw[cn]; exact H.mem⟩
theorem E.drew(H:E A m w):E A m w.drew:=H.same rfl rfl rfl rfl
theorem E.imp(H:E A m w)(h:∀ aV h,iw m aV h→iw bL aV h):E A bL w:=
 ⟨H.os,H.tape,H.output,H.size,let ⟨aV,k,a,l,c,d⟩:=H.mem; ⟨aV,k,a,l,c,h aV k d⟩⟩
theorem iw.swap{aV h:ch}(H:iw (aN::aS::m) aV h):iw (aS::aN::m) aV h:=by
 obtain⟨I,O,ai,cI,cL,Y,aH,bg,G1,yx,yy,ao,al⟩:=H;refine⟨aH,fun x=>if (aH x).isSome then none else h x,?_,(ch.le_trans yx cL),?_,ao,I,bg,?_,?_,?_,Y,al⟩
 ·intro x;cases h:aH x<;>simp[h]
 ·intro x G F;by_cases e:(aH x).isSome<;>simp[e] at F; exact F
 ·exact ch.Ac ai yy
 ·intro x G F;have:aH x=none:=by
   rcases ai x with h | h
   ·rw[h] at F; cases F
   ·cases aoh:aH x with
    |none=>rfl
    |some u=>rw[yx x u aoh] at h; cases h
  simp[this,cI x G F]
 ·intro x G F;have:aH x=none:=(G1 x).resolve_right (by rw[F]; simp);simp[this,cL x G (yy x G F)]
theorem iw.tail{aV h:ch}(g:∀ aV h,iw m aV h→iw bL aV h)(H:iw (aN::m) aV h):iw (aN::bL) aV h:=by
 obtain⟨I,O,ai,cI,cL,Y,al⟩:=H;exact⟨I,O,ai,cI,cL,Y,g _ _ al⟩
theorem iw.perm(aF:m.Perm bL):∀ {aV h:ch},iw m aV h→iw bL aV h:=by
 induction aF with
 |nil=>exact fun h=>h
 |cons x _ b_=>exact fun h=>iw.tail (fun _ _ h=>b_ h) h
 |swap x S _=>exact fun h=>iw.swap h
 |trans _ _ i1 i2=>exact fun h=>i2 (i1 h)
theorem E.perm(H:E A m w)(aF:m.Perm bL):E A bL w:=H.imp fun _ _ h=>h.perm aF
def front(i:Nat)(m:List bu):List bu:=match m,i with
 |[],_=>[]
 |aN::m,0=>aN::m
 |aN::m,i+1=>match front i m with
  |[]=>[aN]
  |aS::r=>aS::aN::r
theorem OU:∀ (i:Nat) (m:List bu),m.Perm (front i m)
 |_,[]=>by simp[front]
 |0,_::_=>.refl _
 |i+1,aN::m=>by
  have b_:=OU i m;simp only[front];cases am:front i m with
  |nil=>rw[am] at b_; rw[List.Perm.eq_nil b_]
  |cons aS r=>rw[am] at b_; exact (b_.cons aN).trans (.swap aS aN r)
theorem E.front(i:Nat)(H:E A m w):E A (front i m) w:=H.perm (OU i m)
def ord:List Nat→List bu→List bu
 |[],m=>m
 |i::Ec,m=>_root_.Go.Proofs.YthaobmpdjcoheaaGreat.bb.front (i+(Ec.filter fun D=>Nat.blt i D).length) (ord Ec m)
theorem E.ord:∀ (Ec:List Nat),E A m w→E A (bb.ord Ec m) w
 |[],H=>H
 |i::Ec,H=>(E.ord Ec H).front _
theorem E.drop(H:E A (aN::m) w):E A m w:=H.imp fun _ _ ⟨_,_,_,_,cL,_,al⟩=>iw.mono (ch.le_refl _) cL al
theorem E.ex{Z:Type}{f:Z→bu}(H:E A (hT f::m) w):∃ x,E A (f x::m) w:=by
 obtain⟨aV,h,a,l,c,I,O,ai,cI,cL,⟨x,F⟩,al⟩:=H.mem;exact⟨x,H.os,H.tape,H.output,H.size,aV,h,a,l,c,I,O,ai,cI,cL,F,al⟩
theorem E.mF{Z:Type}{f:Z→bu}(x:Z)(H:E A (f x::m) w):E A (hT f::m) w:=
 H.imp fun _ _ ⟨I,O,ai,cI,cL,Y,al⟩=>⟨I,O,ai,cI,cL,⟨x,Y⟩,al⟩
theorem E.vu{e8:Prop}(H:E A (ll e8::m) w):e8∧E A m w:=by
 refine⟨?_,H.drop⟩;obtain⟨aV,h,a,l,c,I,O,ai,cI,cL,F,al⟩:=H.mem;exact F
theorem E.vK{e8:Prop}(ar5:e8)(H:E A m w):E A (ll e8::m) w:=
 H.imp fun _ h al=>⟨fun _=>none,h,fun _=>.inl rfl,fun _ _ h=>(by cases h),ch.le_refl _,ar5,al⟩
theorem iw.append{bL:List bu}{aV h:ch}:∀ {m:List bu},iw (m++bL) aV h↔iw (dt m::bL) aV h
 |[]=>⟨fun H=>⟨fun _=>none,h,fun _=>.inl rfl,fun _ _ h=>(by cases h),ch.le_refl _,trivial,H⟩,fun ⟨_,_,_,_,cL,_,al⟩=>iw.mono (ch.le_refl _) cL al⟩
 |aN::m=>by
  constructor
  ·rintro⟨I,O,ai,cI,cL,Y,al⟩;obtain⟨aH,bg,G1,yx,yy,aG,GU⟩:=iw.append.1 al;refine⟨fun x=>(I x).or (aH x),bg,?_,?_,(ch.le_trans yy cL),⟨I,aH,ch.Ac ai yx,?_,?_,Y,aG⟩,GU⟩
   ·intro x;rcases G1 x with h | h
    ·rcases ch.Ac ai yy x with k | k
     ·left; simp[h,k]
     ·exact .inr k
    ·exact .inr h
   ·intro x G F;cases e:I x with
    |some u=>simp[e] at F; subst F; exact cI x u e
    |none=>simp[e] at F; exact cL x G (yx x G F)
   ·intro x G F; simp[F]
   ·intro x G F;have:I x=none:=(ch.Ac ai yx x).resolve_right (by rw[F]; simp);simp[this,F]
  ·rintro⟨Zp,bg,ai,Ks,yy,⟨I,aH,G1,cI,yx,Y,aG⟩,GU⟩;refine⟨I,fun x=>if (I x).isSome then none else h x,?_,(ch.le_trans cI Ks),?_,Y,?_⟩
   ·intro x; cases e:I x<;>simp[e]
   ·intro x G F;by_cases e:(I x).isSome<;>simp[e] at F; exact F
   ·refine iw.append.2 ⟨aH,bg,ch.Ac (ch.abS (ch.Ac (ch.abS ai) yx)) (ch.le_refl _),?_,?_,aG,GU⟩
    ·intro x G F;have:I x=none:=(G1 x).resolve_right (by rw[F]; simp);simp[this,Ks x G (yx x G F)]
    ·intro x G F;have:I x=none:=by
      rcases ai x with k | k
      ·cases e:I x with
       |none=>rfl
       |some u=>rw[cI x u e] at k; cases k
      ·rw[k] at F; cases F
     simp[this,yy x G F]
theorem E.open_{bL:List bu}(H:E A (dt bL::m) w):E A (bL++m) w:=H.imp fun _ _ h=>iw.append.2 h
theorem E.shut{bL:List bu}(H:E A (bL++m) w):E A (dt bL::m) w:=H.imp fun _ _ h=>iw.append.1 h
theorem E.dup{e8:ch→Prop}{y:∀ {aV g5:ch},ch.le aV g5→e8 aV→e8 g5}(H:E A (rR e8 y::m) w):E A (rR e8 y::rR e8 y::m) w:=
 H.imp fun _ h ⟨I,O,ai,cI,cL,Y,al⟩=>⟨fun _=>none,h,fun _=>.inl rfl,fun _ _ h=>(by cases h),ch.le_refl _,Y,I,O,ai,cI,cL,Y,al⟩
theorem E.pD{e8:ch→Prop}{y:∀ {aV g5:ch},ch.le aV g5→e8 aV→e8 g5}(H:E A (rR e8 y::m) w):∃ aV:ch,(∀ l G,aV l=some G→w.heap[l]?=some G)∧e8 aV:=by
 obtain⟨aV,h,a,l,c,I,O,ai,cI,cL,F,al⟩:=H.mem;exact⟨aV,l,F⟩
theorem E.Qn{e8 vR:ch→Prop}{y:∀ {aV g5:ch},ch.le aV g5→e8 aV→e8 g5}{yD:∀ {aV g5:ch},ch.le aV g5→vR aV→vR g5}(h:∀ aV,e8 aV→vR aV)(H:E A (rR e8 y::m) w):E A (rR vR yD::m) w:=
 H.imp fun aV _ ⟨I,O,ai,cI,cL,Y,al⟩=>⟨I,O,ai,cI,cL,h aV Y,al⟩
theorem E.get{l:Nat}{G:Obj}(H:E A (kk l G::m) w):w.heap[l]?=some G:=by
 obtain⟨aV,h,a,tD,c,I,O,ai,cI,cL,F,al⟩:=H.mem;exact c l G (cI l G F)
theorem E.put{l:Nat}{G u:Obj}(H:E A (kk l G::m) w)(I:J.os=w.os)(O:J.tape=w.tape)(aH:J.output=w.output)(bg:J.heap=w.heap.setIfInBounds l u):E A (kk l u::m) J:=by
 obtain⟨aV,h,a,tD,c,df,dT,ai,cI,cL,F,al⟩:=H.mem;have ao:=c l G (cI l G F);have dv:l<w.heap.size:=(Array.getElem?_eq_some_iff.1 ao).1;refine⟨I.trans H.os,O.trans H.tape,aH.trans H.output,by rw[bg]; simpa using H.size,aV,fun x=>if x=l then some u else dT x,?_,?_,?_,fun x=>if x=l then some u else none,dT,?_,?_,?_,?_,al⟩
 ·intro x;by_cases e:x=l
  ·subst e; exact .inl ((a x).resolve_right (by rw[cI x G F]; simp))
  ·simp only[e,if_false];exact ch.Ac a cL x
 ·intro x v aJ;rw[bg,Array.getElem?_setIfInBounds];have dO:l≠x:=by
   intro e; subst e;have:=(a l).resolve_right (by rw[cI l G F]; simp);rw[this] at aJ; cases aJ
  rw[if_neg dO]; exact tD x v aJ
 ·intro x v aJ;rw[bg,Array.getElem?_setIfInBounds];by_cases e:x=l
  ·subst e; simp at aJ; simp[dv,aJ]
  ·simp only[e,if_false] at aJ;rw[if_neg (fun h=>e h.symm)];exact c x v (cL x v aJ)
 ·intro x;by_cases e:x=l
  ·subst e; right; exact (ai x).resolve_left (by rw[F]; simp)
  ·left; simp[e]
 ·intro x v aJ;by_cases e:x=l<;>simp[e] at aJ ⊢; exact aJ
 ·intro x v aJ;have:x≠l:=by
   intro e; subst e;have:=(ai x).resolve_left (by rw[F]; simp);rw[this] at aJ; cases aJ
  simp[this,aJ]
 ·show (fun x=>if x=l then some u else none) l=some u
  simp
theorem E.alloc(G:Obj)(H:E A m w):E A (kk w.heap.size G::m) (w.alloc G):=by
 obtain⟨aV,h,a,tD,c,al⟩:=H.mem;have a4:aV w.heap.size=none:=by
  cases e:aV w.heap.size with
  |none=>rfl
  |some u=>have:=tD _ _ e; simp at this
 have cn:h w.heap.size=none:=by
  cases e:h w.heap.size with
  |none=>rfl
  |some u=>have:=c _ _ e; simp at this
 refine⟨H.os,H.tape,H.output,by have:=H.size; simp; omega,aV,fun x=>if x=w.heap.size then some G else h x,?_,?_,?_,fun x=>if x=w.heap.size then some G else none,h,?_,?_,?_,?_,al⟩
 ·intro x;by_cases e:x=w.heap.size
  ·subst e; exact .inl a4
  ·simp only[e,if_false]; exact a x
 ·intro x v aJ;have dv:x<w.heap.size:=(Array.getElem?_eq_some_iff.1 (tD x v aJ)).1;simp only[World.alloc,Array.getElem?_push];rw[if_neg (by omega)]; exact tD x v aJ
 ·intro x v aJ;simp only[World.alloc,Array.getElem?_push];by_cases e:x=w.heap.size
  ·simp[e] at aJ ⊢; exact aJ
  ·simp only[e,if_false] at aJ ⊢; exact c x v aJ
 ·intro x;by_cases e:x=w.heap.size
  ·right; rw[e]; exact cn
  ·left; simp[e]
 ·intro x v aJ;by_cases e:x=w.heap.size<;>simp[e] at aJ ⊢; exact aJ
 ·intro x v aJ;have:x≠w.heap.size:=by intro e; rw[e,cn] at aJ; cases aJ
  simp[this,aJ]
 ·show (fun x=>if x=w.heap.size then some G else none) w.heap.size=some G
  simp
theorem E.stay{l:Nat}{G:Obj}(H:E A (kk l G::m) w):E A (rR (fun aV=>aV l=some G) (fun h k=>h _ _ k)::m) w:=by
 obtain⟨aV,h,a,tD,c,df,dT,ai,cI,cL,F,al⟩:=H.mem;have ao:=c l G (cI l G F);have aop:aV l=none:=(a l).resolve_right (by rw[cI l G F]; simp);have kZ:ch.le aV (fun x=>if x=l then some G else aV x):=by
  intro x v aJ;have:x≠l:=by intro e; rw[e,aop] at aJ; cases aJ
  simp[this,aJ]
 refine⟨H.os,H.tape,H.output,H.size,fun x=>if x=l then some G else aV x,dT,?_,?_,?_,fun _=>none,dT,fun _=>.inl rfl,fun _ _ h=>(by cases h),ch.le_refl _,?_,iw.mono kZ (ch.le_refl _) al⟩
 ·intro x;by_cases e:x=l
  ·subst e; right; exact (ai x).resolve_left (by rw[F]; simp)
  ·simp only[e,if_false]; exact ch.Ac a cL x
 ·intro x v aJ;by_cases e:x=l
  ·subst e; simp at aJ; subst aJ; exact ao
  ·simp only[e,if_false] at aJ; exact tD x v aJ
 ·intro x v aJ; exact c x v (cL x v aJ)
 ·show (fun x=>if x=l then some G else aV x) l=some G
  simp
end
section
variable {A w J:World} {m bL:List bu} {aN aS:bu} {Z:Type} {T:bn Z} {t:TypeId}
theorem lF(l G n:Nat):(⟨l,G,none⟩:Addr).add n=⟨l,G+n,none⟩:=by
 unfold Addr.add;by_cases h:n=0
 ·subst h; rfl
 ·rw[if_neg h]
theorem uO{l:Nat}{a8:Array Value}{ns:Nat×Nat}(h:w.heap[l]?=some (.cells a8 t ns))(D:Nat):w.cell? ⟨l,D,none⟩=a8[D]?:=by
 simp[World.cell?,h]
theorem an2{l:Nat}{a8:Array Value}(h:w.heap[l]?=some (.cells a8 t))(D:Nat):w.frozen? ⟨l,D,none⟩=false:=by
 simp[World.frozen?,h]
def at_(a8:List Value)(G n:Nat):List Value:=(a8.drop G).take n
theorem ad9{l G:Nat}{a8 xs:List Value}(H:E A (aI l a8 t::m) w)(h:at_ a8 G xs.length=xs):oS w ⟨l,G,none⟩ xs:=by
 intro D v aJ;have ao:=H.get;rw[lF,uO ao];have dv:=(List.getElem?_eq_some_iff.1 aJ).1;rw[← h] at aJ;simp only[at_,List.getElem?_take,List.getElem?_drop] at aJ;rw[if_pos dv] at aJ;simpa using aJ
theorem CJ{l G n:Nat}{a8:List Value}(H:E A (aI l a8 t::m) w)(h:G+n≤a8.length):v7 w ⟨l,G,none⟩ n:=by
 intro D bI;have ao:=H.get;rw[lF];refine⟨?_,an2 ao _⟩;rw[uO ao];have:G+D<a8.toArray.size:=by simp; omega
 rw[Array.getElem?_eq_getElem this]; rfl
theorem bE{Z:Type}(T:bn Z){l G:Nat}{a8:List Value}{x:Z}{a:Addr}(H:E A (aI l a8 t::m) w)(Y:a=⟨l,G,none⟩)(h:at_ a8 G (T.cells x).length=T.cells x):L T a w x:=by subst Y; exact ad9 H h
def jp(a8:List Value)(G:Nat)(xs:List Value):List Value:=a8.take G++xs++a8.drop (G+xs.length)
theorem aHp(a8:List Value)(G:Nat)(v:Value)(xs:List Value)(h:G<a8.length):jp (a8.set G v) (G+1) xs=jp a8 G (v::xs):=by
 simp only[jp,List.length_cons];rw[List.drop_set_of_lt (by omega),List.take_set,List.take_add_one];have I:a8[G]?.toList=[a8[G]]:=by rw[List.getElem?_eq_getElem h]; rfl
 rw[I];have O:(a8.take G++[a8[G]]).set G v=a8.take G++[v]:=by
  rw[List.set_append_right _ _ (by simp; omega)];have:G-(a8.take G).length=0:=by simp; omega
  rw[this]; rfl
 rw[O,show G+1+xs.length=G+(xs.length+1) from by omega];simp
theorem aHr(a8:List Value)(G:Nat)(xs:List Value)(h:G+xs.length≤a8.length):(jp a8 G xs).length=a8.length:=by
 simp[jp]; omega
theorem aHt(a8:List Value)(G:Nat):jp a8 G []=a8:=by simp[jp]
theorem aGZ{l G:Nat}{a8:Array Value}{ns:Nat×Nat}{v:Value}(h:w.heap[l]?=some (.cells a8 t ns)):(w.setCell ⟨l,G,none⟩ v).heap=w.heap.setIfInBounds l (.cells (a8.setIfInBounds G v) t ns):=by
 have dv:l<w.heap.size:=(Array.getElem?_eq_some_iff.1 h).1;simp only[World.setCell];apply Array.ext_getElem?;intro i;rw[Array.getElem?_modify,Array.getElem?_setIfInBounds];by_cases e:l=i
 ·subst e;have ao:w.heap[l]=.cells a8 t ns:=by rw[Array.getElem?_eq_getElem dv] at h; exact Option.some.inj h
  simp[dv,ao]
 ·simp[e]
theorem Ai{l:Nat}:∀ (xs:List Value) (G i:Nat) (a8:List Value) (w:World),E A (aI l a8 t::m) w→G+i+xs.length≤a8.length →
  E A (aI l (jp a8 (G+i) xs) t::m) (oC w ⟨l,G,none⟩ i xs)
 |[],G,i,a8,w,H,_=>by rw[aHt]; exact H
 |v::xs,G,i,a8,w,H,al=>by
  have ao:=H.get;have dv:G+i<a8.length:=by simp at al; omega
  have gV:E A (aI l (a8.set (G+i) v) t::m) (w.setCell ⟨l,G+i,none⟩ v):=H.put rfl rfl rfl (by rw[aGZ ao]; simp);have:=Ai xs G (i+1) (a8.set (G+i) v) _ gV (by simp at al ⊢; omega);rw[show G+(i+1)=G+i+1 from by omega,aHp _ _ _ _ dv] at this;simpa only[oC,lF] using this
theorem bH{x:Z}{k:Addr→World→Prop}(H:E A m w)(aq:∀ l J,E A (aI l (T.cells x) t::m) J→k ⟨l,0,none⟩ J):bG t T x w k:=aq _ _ (H.alloc _)
theorem vm{xs:List Z}{k:Addr→World→Prop}(H:E A m w)(aq:∀ l J,E A (aI l (xs.flatMap T.cells) t::m) J→k ⟨l,0,none⟩ J):s6 t T xs w k:=aq _ _ (H.alloc _)
theorem wU{k:Nat→World→Prop}(H:E A m w)(aq:∀ l J,E A (kk l (.map #[] 0)::m) J→k l J):ua w k:=aq _ _ (H.alloc _)
theorem dg{k:World→Prop}(H:E A m w)(aq:∀ J,E A m J→k J):de w k:=aq _ H.drew
theorem aj{l G:Nat}{a8:List Value}{x:Z}{a:Addr}{k:Z→Prop}(i:Nat)(H:E A m w)(aw:front i m=aI l a8 t::bL)(Y:a=⟨l,G,none⟩)(F:at_ a8 G (T.cells x).length=T.cells x)(aq:k x):ex (L T a w) k:=
 ⟨x,by subst Y; exact ad9 (aw▸H.front i) F,aq⟩
theorem dx{l G:Nat}{a8:List Value}{x:Z}{a:Addr}{k:World→Prop}(i:Nat)(H:E A m w)(aw:front i m=aI l a8 t::bL)(Y:a=⟨l,G,none⟩)(al:G+(T.cells x).length≤a8.length)
  (aq:∀ J,E A (aI l (jp a8 G (T.cells x)) t::bL) J→k J):ba T a x w k:=by
 subst Y;exact⟨CJ (aw▸H.front i) al,aq _ (Ai (T.cells x) G 0 a8 w (aw▸H.front i) (by simpa using al))⟩
theorem aO{Z:Type}{C k:Z→Prop}(x:Z)(h:C x)(aq:k x):ex C k:=⟨x,h,aq⟩
theorem b3{p:Option Addr}{a:Addr}{k:Addr→Prop}(h:p=some a)(aq:k a):ex (bC p) k:=⟨a,h,aq⟩
def K6(aN aS:bu):bu:=⟨fun aV h=>aN.p aV h∨aS.p aV h,fun a4 cn h=>h.imp (aN.mono a4 cn) (aS.mono a4 cn)⟩
theorem E.or(H:E A (K6 aN aS::m) w):E A (aN::m) w∨E A (aS::m) w:=by
 obtain⟨aV,h,a,l,c,I,O,ai,cI,cL,F,al⟩:=H.mem;rcases F with F | F
 ·exact .inl ⟨H.os,H.tape,H.output,H.size,aV,h,a,l,c,I,O,ai,cI,cL,F,al⟩
 ·exact .inr ⟨H.os,H.tape,H.output,H.size,aV,h,a,l,c,I,O,ai,cI,cL,F,al⟩
theorem E.inl(H:E A (aN::m) w):E A (K6 aN aS::m) w:=H.imp fun _ _ ⟨I,O,ai,cI,cL,Y,al⟩=>⟨I,O,ai,cI,cL,.inl Y,al⟩
theorem E.inr(H:E A (aS::m) w):E A (K6 aN aS::m) w:=H.imp fun _ _ ⟨I,O,ai,cI,cL,Y,al⟩=>⟨I,O,ai,cI,cL,.inr Y,al⟩
def fx:af:=⟨none,0,0⟩
def row(T:bn Z)(t:TypeId)(ar:Nat)(s:af)(xs:List Z):bu:=
 K6 (ll (s=fx∧xs=[])) (hT fun l=>hT fun rest=>dt [ll (s.a=some ⟨l,0,none⟩∧s.len=xs.length∧s.len≤s.cap∧(s.cap-s.len)*ar≤rest.length),aI l (xs.flatMap T.cells++rest) t])
def cT(T:bn Z)(s:af)(xs:List Z)(aV:ch):Prop:=
 xs.length=s.len∧(xs=[]∨∃ l G arr t ns,s.a=some ⟨l,G,none⟩∧aV l=some (.cells arr t ns)∧∀ D v,(xs.flatMap T.cells)[D]?=some v→arr[G+D]?=some v)
theorem cT.mono{s:af}{xs:List Z}{aV g5:ch}(h:ch.le aV g5):cT T s xs aV→cT T s xs g5:=fun ⟨I,O⟩=>
 ⟨I,O.imp id fun ⟨l,G,arr,t,ns,aH,bg,dh⟩=>⟨l,G,arr,t,ns,aH,h _ _ bg,dh⟩⟩
def ro(T:bn Z)(s:af)(xs:List Z):bu:=rR (cT T s xs) cT.mono
theorem kJ(T:bn Z)(t:TypeId)(ar:Nat)(H:E A m w):E A (row T t ar fx []::m) w:=E.inl (E.vK ⟨rfl,rfl⟩ H)
theorem oF{ar:Nat}{s:af}{xs:List Z}(H:E A (row T t ar s xs::m) w) :
  (s=fx∧xs=[]∧E A m w)∨∃ l rest,s.a=some ⟨l,0,none⟩∧s.len=xs.length∧s.len≤s.cap∧(s.cap-s.len)*ar≤rest.length∧E A (aI l (xs.flatMap T.cells++rest) t::m) w:=by
 rcases H.or with H | H
 ·obtain⟨⟨I,O⟩,H⟩:=H.vu;exact .inl ⟨I,O,H⟩
 ·obtain⟨l,H⟩:=H.ex;obtain⟨rest,H⟩:=H.ex;have H:=H.open_;obtain⟨⟨I,O,aH,bg⟩,H⟩:=E.vu (e8:=s.a=some ⟨l,0,none⟩∧s.len=xs.length∧s.len≤s.cap∧(s.cap-s.len)*ar≤rest.length) H;exact .inr ⟨l,rest,I,O,aH,bg,H⟩
theorem un{ar l:Nat}{rest:List Value}{s:af}{xs:List Z}(I:s.a=some ⟨l,0,none⟩)(O:s.len=xs.length)(aH:s.len≤s.cap)(bg:(s.cap-s.len)*ar≤rest.length)(H:E A (aI l (xs.flatMap T.cells++rest) t::m) w) :
  E A (row T t ar s xs::m) w:=E.inr (E.mF l (E.mF rest (E.shut (bL:=[ll _,aI l (xs.flatMap T.cells++rest) t]) (E.vK ⟨I,O,aH,bg⟩ H))))
theorem um{ar l:Nat}{xs:List Z}{y:Nat}(hm:y=xs.length)(H:E A (aI l (xs.flatMap T.cells) t::m) w):E A (row T t ar ⟨some ⟨l,0,none⟩,y,y⟩ xs::m) w:=
 un (rest:=[]) rfl hm (Nat.le_refl _) (by simp) (by rw[List.append_nil]; exact H)
theorem gn{ar:Nat}{s:af}{xs:List Z}(H:E A (row T t ar s xs::m) w):s.len=xs.length:=by
 rcases oF H with ⟨rfl,rfl,_⟩ | ⟨l,rest,_,h,_⟩
 ·rfl
 ·exact h
theorem EM{s:af}{xs:List Z}(H:E A (ro T s xs::m) w):s.len=xs.length:=by
 obtain⟨aV,_,h⟩:=H.pD; exact h.1.symm
theorem vz{ar:Nat}{s:af}{xs:List Z}(H:E A (row T t ar s xs::m) w):E A (ro T s xs::m) w:=by
 rcases oF H with ⟨rfl,rfl,lw⟩ | ⟨l,rest,I,O,aH,bg,H⟩
 ·exact lw.imp fun aV h al=>⟨fun _=>none,h,fun _=>.inl rfl,fun _ _ h=>(by cases h),ch.le_refl _,⟨rfl,.inl rfl⟩,al⟩
 ·refine E.Qn (fun aV a4=>⟨O.symm,.inr ⟨l,0,_,t,(0,0),I,a4,?_⟩⟩) H.stay;intro D v aJ;have dv:=(List.getElem?_eq_some_iff.1 aJ).1;rw[Nat.zero_add];simp only[List.getElem?_toArray];rw[List.getElem?_append_left dv]; exact aJ
theorem OQ{ar:Nat}(al:∀ x,(T.cells x).length=ar):∀ (xs:List Z) (i:Nat) (x:Z),xs[i]?=some x→∀ D v,(T.cells x)[D]?=some v→(xs.flatMap T.cells)[i*ar+D]?=some v
 |[],i,x,h,_,_,_=>by simp at h
 |S::xs,0,x,h,D,v,aJ=>by
  simp at h; subst h;have dv:=(List.getElem?_eq_some_iff.1 aJ).1;rw[List.flatMap_cons,Nat.zero_mul,Nat.zero_add,List.getElem?_append_left dv]; exact aJ
 |S::xs,i+1,x,h,D,v,aJ=>by
  have b_:=OQ al xs i x (by simpa using h) D v aJ;rw[List.flatMap_cons,List.getElem?_append_right (by rw[al,Nat.add_mul]; omega),al];rw[show (i+1)*ar+D-ar=i*ar+D from by rw[Nat.add_mul]; omega]; exact b_
theorem mh{ar:Nat}{s:af}{xs:List Z}{i:Int}{a:Addr}{x:Z}(al:∀ x,(T.cells x).length=ar)(Y:cD s ar i a)(F:xs[i.toNat]?=some x)(H:E A (row T t ar s xs::m) w):oS w a (T.cells x):=by
 obtain⟨c,U,ah,I,rfl⟩:=Y;rcases oF H with ⟨rfl,rfl,H⟩ | ⟨l,rest,O,aH,bg,dh,H⟩
 ·cases U
 ·rw[O] at U; injection U with U; subst U
  have ao:=H.get;intro D v aJ;rw[lF,lF,uO ao,Nat.zero_add];have:=OQ al xs i.toNat x F D v aJ;have dv:=(List.getElem?_eq_some_iff.1 this).1;simp only[List.getElem?_toArray];rw[List.getElem?_append_left dv]; exact this
theorem Ap{ar:Nat}{s:af}{xs:List Z}{i:Int}{a:Addr}{x:Z}(al:∀ x,(T.cells x).length=ar)(Y:cD s ar i a)(F:xs[i.toNat]?=some x)(H:E A (ro T s xs::m) w):oS w a (T.cells x):=by
 obtain⟨c,U,ah,I,rfl⟩:=Y;obtain⟨aV,a4,O,aH | ⟨l,G,arr,tc,ns,bg,dh,il⟩⟩:=H.pD
 ·rw[aH] at F; simp at F
 ·rw[bg] at U; injection U with U; subst U
  intro D v aJ;rw[lF,lF,uO (a4 _ _ dh)];rw[show G+i.toNat*ar+D=G+(i.toNat*ar+D) from by omega];exact il _ _ (OQ al xs i.toNat x F D v aJ)
theorem aa7{ar:Nat}{s:af}{xs:List Z}{i:Int}{k:Addr→Prop}(H:E A (row T t ar s xs::m) w)(ah:0≤i)(I:i<xs.length)(aq:∀ a,cD s ar i a→k a):ex (cD s ar i) k:=by
 rcases oF H with ⟨rfl,rfl,H⟩ | ⟨l,rest,O,aH,_⟩
 ·simp at I; omega
 ·exact⟨_,⟨_,O,ah,by omega,rfl⟩,aq _ ⟨_,O,ah,by omega,rfl⟩⟩
theorem aBf{ar:Nat}{s:af}{xs:List Z}{i:Int}{k:Addr→Prop}(H:E A (ro T s xs::m) w)(ah:0≤i)(I:i<xs.length)(aq:∀ a,cD s ar i a→k a):ex (cD s ar i) k:=by
 obtain⟨aV,a4,O,aH | ⟨l,G,arr,tc,ns,bg,dh,il⟩⟩:=H.pD
 ·rw[aH] at I; simp at I; omega
 ·exact⟨_,⟨_,bg,ah,by omega,rfl⟩,aq _ ⟨_,bg,ah,by omega,rfl⟩⟩
theorem NS{a:Addr}{a8 gF:List Value}{G:Nat}(h:oS w a a8)(Y:a.spot=none)(aG:at_ a8 G gF.length=gF):oS w (a.add G) gF:=by
 intro D v aJ;have dv:=(List.getElem?_eq_some_iff.1 aJ).1;rw[← aG] at aJ;simp only[at_,List.getElem?_take,List.getElem?_drop] at aJ;rw[if_pos dv] at aJ;have:=h (G+D) v aJ;obtain⟨l,p,q⟩:=a;simp only at Y; subst Y;rw[lF,lF] at *;rw[show p+G+D=p+(G+D) from by omega]; exact this
theorem C8{ar:Nat}{s:af}{xs:List Z}(H:E A (row T t ar s xs::m) w):k7 T w s xs:=by
 rcases oF H with ⟨rfl,rfl,H⟩ | ⟨l,rest,O,aH,bg,dh,H⟩
 ·exact⟨rfl,rfl⟩
 ·refine⟨aH.symm,?_⟩;rw[O];have ao:=H.get;intro D v aJ;have dv:=(List.getElem?_eq_some_iff.1 aJ).1;rw[lF,uO ao,Nat.zero_add];simp only[List.getElem?_toArray];rw[List.getElem?_append_left dv]; exact aJ
theorem W6{s:af}{xs:List Z}(H:E A (ro T s xs::m) w):k7 T w s xs:=by
 obtain⟨aV,a4,O,aH | ⟨l,G,arr,tc,ns,bg,dh,il⟩⟩:=H.pD
 ·refine⟨O,?_⟩;subst aH;generalize s.a=q;cases q with
  |none=>rfl
  |some a=>intro D v aJ; simp at aJ
 ·refine⟨O,?_⟩;rw[bg];intro D v aJ;rw[lF,uO (a4 _ _ dh)];exact il _ _ aJ
theorem N2{ar az:Nat}{s:af}{xs new:List Z}{k:af→World→Prop}(al:∀ x,(T.cells x).length=ar)(H:E A (row T t ar s xs::m) w)(ao:(xs.length+new.length)*az≤140737488355328)
  (aq:∀ r J,E A (row T t ar r (xs++new)::m) J→k r J):l4 t T ar az s new w k:=by
 have aK:=gn H;have qc:=C8 H;refine⟨fun U=>?_,fun U=>⟨by rw[aK]; exact ao,xs,qc,fun c rest I O=>?_⟩⟩
 ·rcases oF H with ⟨rfl,rfl,lw⟩ | ⟨l,rest,O,aH,bg,dh,H⟩
  ·have ah:new=[]:=by
    cases new with
    |nil=>rfl
    |cons=>simp[fx] at U
   subst ah;exact aq _ _ (kJ T t ar lw)
  ·rw[O];simp only[lF,Nat.zero_add];have mZ:(xs.flatMap T.cells).length=s.len*ar:=by rw[nU al,aH]
   have mB:(new.flatMap T.cells).length=new.length*ar:=nU al _;have tQ:new.length*ar≤rest.length:=Nat.le_trans (Nat.mul_le_mul_right ar (by omega)) dh;refine⟨CJ H (by simp[mZ]; omega),aq _ _ ?_⟩;have:=Ai (new.flatMap T.cells) (s.len*ar) 0 _ _ H (by simp[mZ,mB]; omega)
   refine un (rest:=rest.drop (new.length*ar)) rfl (by simp; omega) (by simpa using U) (by
    rw[List.length_drop];have e:(s.cap-(s.len+new.length))*ar=(s.cap-s.len)*ar-new.length*ar:=by rw[← Nat.sub_mul]; congr 1; omega
    simp only
    rw[e]; omega) ?_
   have e:jp (xs.flatMap T.cells++rest) (s.len*ar+0) (new.flatMap T.cells)=(xs++new).flatMap T.cells++rest.drop (new.length*ar):=by
    simp only[jp,Nat.add_zero,mB];rw[← mZ,List.take_left,List.drop_append];simp
   rw[e] at this;exact this
 ·have gV:E A m w.drew:=(H.drop).drew;refine aq _ _ (un rfl (by simp; omega) I (by simpa using Nat.le_of_eq O.symm) (gV.alloc _))
theorem nq{ar az:Nat}{s:af}{xs new:List Z}{k:af→World→Prop}(al:∀ x,(T.cells x).length=ar)(i:Nat)(H:E A m w)(aw:front i m=row T t ar s xs::bL)(ao:(xs.length+new.length)*az≤140737488355328)
  (aq:∀ r J,E A (row T t ar r (xs++new)::bL) J→k r J):l3 t T ar az s new w k:=by
 have gV:E A (row T t ar s xs::bL) w:=aw▸H.front i;have g4:=gV.alloc (.cells (new.flatMap T.cells).toArray t);exact N2 al g4.drop ao aq
theorem Dq{ar az:Nat}{s l:af}{xs new:List Z}{k:af→World→Prop}(al:∀ x,(T.cells x).length=ar)(i:Nat)(H:E A m w)(aw:front i m=row T t ar s xs::bL)(aK:k7 T w l new)(ao:(xs.length+new.length)*az≤140737488355328)
  (aq:∀ r J,E A (row T t ar r (xs++new)::bL) J→k r J):tz t T ar az s l w k:=
 ⟨new,aK,N2 al (aw▸H.front i) ao aq⟩
end
section
variable {A w J:World} {m bL:List bu} {aN aS:bu} {Z:Type} {T:bn Z} {t:TypeId} {k:IntKind}
theorem sZ(key:Int)(v:Z)(x:Int):∀ es:List (Int×Z),(eH key v es).lookup x=if x==key then some v else es.lookup x
 |[]=>by
  by_cases h:(x==key)=true
  ·simp[eH,List.lookup,h]
  ·simp only[Bool.not_eq_true] at h; simp[eH,List.lookup,h]
 |(a,l)::es=>by
  have b_:=sZ key v x es;simp only[eH];by_cases h:(key==a)=true
  ·have e:key=a:=by simpa using h
   subst e;by_cases g:(x==key)=true
   ·simp[List.lookup,g]
   ·simp only[Bool.not_eq_true] at g; simp[List.lookup,g]
  ·simp only[Bool.not_eq_true] at h;simp only[h,Bool.false_eq_true,if_false,List.lookup,b_];by_cases g:(x==a)=true
   ·have e:x=a:=by simpa using g
    subst e;have:(x==key)=false:=by simpa using fun e=>by simp[e] at h
    simp[this]
   ·simp only[Bool.not_eq_true] at g; simp[g]
theorem Kq(key:Int)(v:Z):∀ es:List (Int×Z),(eH key v es).map (·.1)=if (es.lookup key).isSome then es.map (·.1) else es.map (·.1)++[key]
 |[]=>rfl
 |(a,l)::es=>by
  have b_:=Kq key v es;simp only[eH];by_cases h:(key==a)=true
  ·have e:key=a:=by simpa using h
   subst e; simp[List.lookup]
  ·simp only[Bool.not_eq_true] at h;simp only[h,Bool.false_eq_true,if_false,List.lookup,List.map_cons,b_];split<;>simp
theorem Hv{key:Int}:∀ {es:List (Int×Z)},es.lookup key=none↔key∉es.map (·.1)
 |[]=>by simp
 |(a,l)::es=>by
  by_cases h:(key==a)=true
  ·have e:key=a:=by simpa using h
   subst e; simp[List.lookup]
  ·simp only[Bool.not_eq_true] at h;have e:key≠a:=by simpa using h
   simp only[List.lookup,h,List.map_cons,List.mem_cons,e,false_or];exact Hv
theorem Es{key:Int}{v:Z}{es:List (Int×Z)}(h:(es.map (·.1)).Nodup):((eH key v es).map (·.1)).Nodup:=by
 rw[Kq];split
 ·exact h
 ·rename_i aK;have:es.lookup key=none:=by cases e:es.lookup key with | none=>rfl | some u=>rw[e] at aK; simp at aK
  rw[List.nodup_append];refine⟨h,by simp,?_⟩;intro a Y l ao e;simp at ao; subst ao; subst e;exact Hv.1 this Y
theorem QJ{key:Int}:∀ {es:List (Int×Z)},((del key es).map (·.1)).Sublist (es.map (·.1))
 |[]=>.slnil
 |(a,l)::es=>by
  simp only[del];split
  ·exact (List.sublist_cons_self _ _)
  ·exact (QJ (es:=es)).cons_cons a
theorem Q7{key:Int}{es:List (Int×Z)}(h:(es.map (·.1)).Nodup):((del key es).map (·.1)).Nodup:=h.sublist QJ
theorem Hu(key x:Int):∀ es:List (Int×Z),(es.map (·.1)).Nodup→(del key es).lookup x=if x==key then none else es.lookup x
 |[],_=>by simp[del]
 |(a,l)::es,h=>by
  have aK:a∉es.map (·.1):=(List.nodup_cons.1 h).1;have b_:=Hu key x es (List.nodup_cons.1 h).2;simp only[del];by_cases g:(key==a)=true
  ·have e:key=a:=by simpa using g
   subst e;simp only[g,if_true,List.lookup];by_cases q:(x==key)=true
   ·have e:x=key:=by simpa using q
    subst e; simp[Hv.2 aK]
   ·simp only[Bool.not_eq_true] at q; simp[q]
  ·simp only[Bool.not_eq_true] at g;simp only[g,Bool.false_eq_true,if_false,List.lookup,b_];by_cases q:(x==a)=true
   ·have e:x=a:=by simpa using q
    subst e;have:(x==key)=false:=by simpa using fun e=>by simp[e] at g
    simp[this]
   ·simp only[Bool.not_eq_true] at q; simp[q]
def cZ(T:bn Z)(k:IntKind)(r:Nat)(es:List (Int×Z)):bu:=hT fun arr=>hT fun c=>dt [ll (sw T k arr es∧qM arr c∧(es.map (·.1)).Nodup),kk r (.map arr c)]
theorem yF{r:Nat}{es:List (Int×Z)}(H:E A (cZ T k r es::m) w):∃ arr c,sw T k arr es∧qM arr c∧(es.map (·.1)).Nodup∧E A (kk r (.map arr c)::m) w:=by
 obtain⟨arr,H⟩:=H.ex;obtain⟨c,H⟩:=H.ex;have H:=H.open_;obtain⟨⟨I,ao,O⟩,H⟩:=E.vu (e8:=sw T k arr es∧qM arr c∧(es.map (·.1)).Nodup) H;exact⟨arr,c,I,ao,O,H⟩
theorem KE{r:Nat}{es:List (Int×Z)}{arr:Array MapEntry}{c:Nat}(I:sw T k arr es)(ao:qM arr c)(O:(es.map (·.1)).Nodup)(H:E A (kk r (.map arr c)::m) w):E A (cZ T k r es::m) w:=
 E.mF arr (E.mF c (E.shut (bL:=[ll _,kk r (.map arr c)]) (E.vK ⟨I,ao,O⟩ H)))
theorem Hw{r:Nat}{es:List (Int×Z)}(H:E A (cZ T k r es::m) w):(es.map (·.1)).Nodup:=by
 obtain⟨_,_,_,_,h,_⟩:=yF H; exact h
theorem wQ{r:Nat}(T:bn Z)(k:IntKind)(H:E A (kk r (.map #[] 0)::m) w):E A (cZ T k r []::m) w:=KE (by simp[sw]) ⟨by simp,by simp⟩ (by simp) H
theorem l_{r:Nat}{es:List (Int×Z)}{key:Int}{aa:Option Z→Prop}{y:Option Nat}(i:Nat)(H:E A m w)(aw:front i m=cZ T k r es::bL)(hm:y=some r)(aq:aa (es.lookup key)):ex (ih T k y key w) aa:=by
 obtain⟨arr,c,I,x_,O,H⟩:=yF (aw▸H.front i);subst hm;exact⟨_,⟨es,⟨arr,c,H.get,I,x_⟩,rfl⟩,aq⟩
theorem abH{r:Nat}{es:List (Int×Z)}{aa:Nat→Prop}{y:Option Nat}(i:Nat)(H:E A m w)(aw:front i m=cZ T k r es::bL)(hm:y=some r)(aq:aa es.length):ex (rH y w) aa:=by
 obtain⟨arr,c,I,x_,O,H⟩:=yF (aw▸H.front i);subst hm;have al:es.length=arr.size:=by have:=congrArg List.length I; simpa using this.symm
 exact⟨_,⟨arr,c,H.get,al⟩,aq⟩
theorem aeB{r:Nat}{G:Obj}{arr:Array MapEntry}{c:Nat}(H:E A (kk r G::m) w):E A (kk r (.map arr c)::m) (vA w r arr c):=H.put rfl rfl rfl rfl
theorem r4{r:Nat}{es:List (Int×Z)}{key:Int}{v:Z}{aa:World→Prop}{y:Option Nat}(i:Nat)(H:E A m w)(aw:front i m=cZ T k r es::bL)(hm:y=some r)
  (aq:∀ J,E A (cZ T k r (eH key v es)::bL) J→aa J):qh T k y key v w aa:=by
 obtain⟨arr,c,I,x_,O,H⟩:=yF (aw▸H.front i);exact⟨r,es,hm,⟨arr,c,H.get,I,x_⟩,fun uJ Jf fp uY=>aq _ (KE fp uY (Es O) (aeB H))⟩
theorem QW{r:Nat}{es:List (Int×Z)}{key:Int}{aa:World→Prop}{y:Option Nat}(i:Nat)(H:E A m w)(aw:front i m=cZ T k r es::bL)(hm:y=some r)
  (aq:∀ J,E A (cZ T k r (del key es)::bL) J→aa J):Hx T k y key w aa:=by
 obtain⟨arr,c,I,x_,O,H⟩:=yF (aw▸H.front i);subst hm;exact⟨es,⟨arr,c,H.get,I,x_⟩,fun uJ Jf fp uY=>aq _ (KE fp uY (Q7 O) (aeB H))⟩
theorem wrap_i64{x:Int}(ah:-9223372036854775808≤x)(I:x≤9223372036854775807):IntKind.i64.wrap x=x:=by
 rw[IntKind.wrap_i64]; omega
theorem Ic{s r:af}{ar:Nat}{i h y:Int}(H:Sub s ar i h y r):r.len=(h-i).toNat∧r.cap=(y-i).toNat∧(∀ l G,s.a=some ⟨l,G,none⟩→y≠i→r.a=some ⟨l,G+i.toNat*ar,none⟩):=by
 obtain⟨ah,I,O,aH,rfl⟩:=H;refine⟨by simp; omega,by simp; omega,fun l G ao hm=>?_⟩;have:y.toNat≠i.toNat:=by omega
 simp only[this,if_false,ao,Option.map_some,lF]
theorem oa{s:af}{ar:Nat}{i h y:Int}{aa:af→Prop}(ah:0≤i)(I:i≤h)(O:h≤y)(aH:y≤s.cap)(aq:∀ r,Sub s ar i h y r→aa r):ex (Sub s ar i h y) aa:=⟨_,⟨ah,I,O,aH,rfl⟩,aq _ ⟨ah,I,O,aH,rfl⟩⟩
theorem aGy{ar:Nat}{s r:af}{xs:List Z}{h:Int}(al:∀ x,(T.cells x).length=ar)(aG:Sub s ar 0 h s.cap r)(cn:h≤xs.length)(H:E A (row T t ar s xs::m) w):r=⟨s.a,h.toNat,s.cap⟩∧E A (row T t ar r (xs.take h.toNat)::m) w:=by
 obtain⟨ah,I,O,aH,rfl⟩:=aG;have e:(⟨if (s.cap:Int).toNat=(0:Int).toNat then s.a else s.a.map (·.add ((0:Int).toNat*ar)),h.toNat-(0:Int).toNat,(s.cap:Int).toNat-(0:Int).toNat⟩:af)=⟨s.a,h.toNat,s.cap⟩:=by
  have:(fun x:Addr=>x.add 0)=id:=by funext x; simp[Addr.add]
  simp[this]
 refine⟨e,?_⟩;rw[e];rcases oF H with ⟨rfl,rfl,lw⟩ | ⟨l,rest,br,eN,iZ,nt,H⟩
 ·have:h.toNat=0:=by simp at cn; omega
  rw[this]; exact kJ T t ar lw
 ·refine un (rest:=(xs.drop h.toNat).flatMap T.cells++rest) br (by simp; omega) (by simp only; omega) ?_ ?_
  ·rw[List.length_append,nU al,List.length_drop];have e:(s.cap-h.toNat)*ar=(xs.length-h.toNat)*ar+(s.cap-s.len)*ar:=by rw[← Nat.add_mul]; congr 1; omega
   simp only;rw[e]; omega
  ·rw[← List.append_assoc,← List.flatMap_append,List.take_append_drop]; exact H
theorem ad8{ar:Nat}{s r:af}{xs:List Z}{i:Int}(al:∀ x,(T.cells x).length=ar)(aG:Sub s ar i s.len s.cap r)(H:E A (row T t ar s xs::m) w):k7 T w r (xs.drop i.toNat):=by
 obtain⟨br,eN,iZ⟩:=Ic aG;obtain⟨ah,I,O,aH,ab⟩:=aG;have aK:=gn H;refine⟨by rw[br,List.length_drop]; omega,?_⟩;rcases oF H with ⟨rfl,rfl,H⟩ | ⟨l,rest,df,dT,gI,jB,H⟩
 ·have Y:r.a=none:=by
   rw[ab];show (if (fx.cap:Int).toNat=i.toNat then fx.a else fx.a.map (·.add (i.toNat*ar)))=none
   split<;>rfl
  rw[Y]; simp[F1]
 ·by_cases e:(s.cap:Int)=i
  ·have:xs.drop i.toNat=[]:=List.drop_eq_nil_of_le (by omega);rw[this];cases aKc:r.a with
   |none=>rfl
   |some a=>intro D v aJ; simp at aJ
  ·rw[iZ l 0 df e];intro D v aJ;have ao:=H.get;rw[lF,uO ao,Nat.zero_add];simp only[List.getElem?_toArray];have ag:(xs.drop i.toNat).flatMap T.cells=(xs.flatMap T.cells).drop (i.toNat*ar):=by
    have:xs.flatMap T.cells=(xs.take i.toNat).flatMap T.cells++(xs.drop i.toNat).flatMap T.cells:=by rw[← List.flatMap_append,List.take_append_drop]
    have pJ:((xs.take i.toNat).flatMap T.cells).length=i.toNat*ar:=by rw[nU al,List.length_take]; congr 1; omega
    rw[this,← pJ,List.drop_left]
   rw[ag,List.getElem?_drop] at aJ;have dv:=(List.getElem?_eq_some_iff.1 aJ).1;rw[List.getElem?_append_left dv]; exact aJ
theorem aka{ar az:Nat}{s l:af}{xs new:List Z}{aa:af→World→Prop}(al:∀ x,(T.cells x).length=ar)(H:E A (row T t ar s xs::m) w)(aK:k7 T w l new)(U:s.len+new.length≤s.cap)
  (aq:∀ J,E A (row T t ar ⟨s.a,s.len+new.length,s.cap⟩ (xs++new)::m) J→aa ⟨s.a,s.len+new.length,s.cap⟩ J):tz t T ar az s l w aa:=by
 refine⟨new,aK,fun _=>?_,fun R=>absurd U (by omega)⟩;rcases oF H with ⟨rfl,rfl,lw⟩ | ⟨akt,rest,O,aH,bg,dh,H⟩
 ·have ah:new=[]:=by
   cases new with
   |nil=>rfl
   |cons=>simp[fx] at U
  subst ah;exact aq _ (kJ T t ar lw)
 ·rw[O];rw[O] at aq;simp only[lF,Nat.zero_add];have mZ:(xs.flatMap T.cells).length=s.len*ar:=by rw[nU al,aH]
  have mB:(new.flatMap T.cells).length=new.length*ar:=nU al _;have tQ:new.length*ar≤rest.length:=Nat.le_trans (Nat.mul_le_mul_right ar (by omega)) dh;refine⟨CJ H (by simp[mZ]; omega),aq _ ?_⟩;have:=Ai (new.flatMap T.cells) (s.len*ar) 0 _ _ H (by simp[mZ,mB]; omega)
  refine un (rest:=rest.drop (new.length*ar)) rfl (by simp; omega) (by simpa using U) (by
   rw[List.length_drop];have e:(s.cap-(s.len+new.length))*ar=(s.cap-s.len)*ar-new.length*ar:=by rw[← Nat.sub_mul]; congr 1; omega
   simp only
   rw[e]; omega) ?_
  have e:jp (xs.flatMap T.cells++rest) (s.len*ar+0) (new.flatMap T.cells)=(xs++new).flatMap T.cells++rest.drop (new.length*ar):=by
   simp only[jp,Nat.add_zero,mB];rw[← mZ,List.take_left,List.drop_append];simp
  rw[e] at this;exact this
theorem alH{ar:Nat}{s r:af}{xs:List Z}{z:Z}{y:Int}{aa:World→Prop}(al:∀ x,(T.cells x).length=ar)(aG:Sub s ar s.len y s.cap r)(H:E A (row T t ar s xs::m) w)(aq:∀ J,E A (row T t ar s xs::m) J→aa J):wh T ar z r w aa:=by
 obtain⟨br,eN,iZ⟩:=Ic aG;obtain⟨ah,I,O,aH,ab⟩:=aG;rcases oF H with ⟨rfl,rfl,lw⟩ | ⟨l,rest,df,dT,gI,jB,gV⟩
 ·simp only[fx] at ab; subst ab; simpa[wh] using aq w H
 ·by_cases e:(s.cap:Int)=s.len
  ·have ah:r.len=0:=by rw[br]; omega
   unfold wh;split
   ·exact aq w H
   ·rw[ah];refine⟨fun D bI=>absurd bI (by omega),?_⟩;simpa[oC] using aq w H
  ·have Y:=iZ l 0 df e;unfold wh;rw[Y];have mZ:(xs.flatMap T.cells).length=s.len*ar:=by rw[nU al,dT]
   have wB:((List.replicate r.len z).flatMap T.cells).length=r.len*ar:=by rw[nU al]; simp
   have kZ:r.len*ar≤rest.length:=Nat.le_trans (Nat.mul_le_mul_right ar (by rw[br]; omega)) jB;have hD:((s.len:Int).toNat)=s.len:=by simp
   rw[hD];refine⟨CJ gV (by simp only[List.length_append,mZ]; omega),aq _ ?_⟩;have:=Ai ((List.replicate r.len z).flatMap T.cells) (0+s.len*ar) 0 _ _ gV (by simp only[List.length_append,mZ,wB]; omega);refine un (rest:=jp rest 0 ((List.replicate r.len z).flatMap T.cells)) df dT gI (by rw[aHr _ _ _ (by rw[wB]; omega)]; exact jB) ?_;have DF:jp (xs.flatMap T.cells++rest) (0+s.len*ar+0) ((List.replicate r.len z).flatMap T.cells)=xs.flatMap T.cells++jp rest 0 ((List.replicate r.len z).flatMap T.cells):=by
    simp only[jp,Nat.add_zero,Nat.zero_add,List.take_zero,List.nil_append,wB];rw[← mZ,List.take_left,List.drop_append];simp
   rw[DF] at this;exact this
end
end bb
namespace bb
open Go.RowKit
section
variable {A w J:World} {m bL:List bu} {aN aS:bu} {Z ep:Type} {T:bn Z} {cX:bn ep} {t:TypeId}
theorem vk{bp:Type}{body:bp→World→(bp→World→Prop)→Prop}{s:bp}{w:World}(aV:bp→World→Prop)(tj:bp→Nat)(ah:aV s w)
  (h:∀ s w,aV s w→body s w fun fy J=>aV fy J∧tj fy<tj s):eZ body s w:=⟨aV,fun s _=>tj s,ah,h⟩
theorem kI{ar:Nat}{s:af}{xs:List Z}{i:Int}(H:E A (row T t ar s xs::m) w)(ah:0≤i)(I:i<xs.length):∃ a,cD s ar i a:=by
 obtain⟨a,h,_⟩:=aa7 (k:=fun _=>True) H ah I fun _ _=>trivial;exact⟨a,h⟩
theorem yZ{ar:Nat}{s:af}{xs:List Z}{i:Int}(H:E A (ro T s xs::m) w)(ah:0≤i)(I:i<xs.length):∃ a,cD s ar i a:=by
 obtain⟨a,h,_⟩:=aBf (k:=fun _=>True) H ah I fun _ _=>trivial;exact⟨a,h⟩
theorem aej{ar:Nat}{s:af}{xs:List Z}{i:Int}{a:Addr}(Y:cD s ar i a)(H:E A (row T t ar s xs::m) w):a.spot=none:=by
 obtain⟨c,U,ah,I,rfl⟩:=Y;rcases oF H with ⟨rfl,rfl,H⟩ | ⟨l,rest,O,aH,bg,dh,H⟩
 ·cases U
 ·rw[O] at U; injection U with U; subst U; rw[lF]
theorem Sk{ar:Nat}{s:af}{xs:List Z}{i:Int}{a:Addr}(Y:cD s ar i a)(H:E A (ro T s xs::m) w):a.spot=none:=by
 obtain⟨c,U,ah,I,rfl⟩:=Y;obtain⟨aV,a4,O,aH | ⟨l,G,arr,tc,ns,bg,dh,il⟩⟩:=H.pD
 ·rw[aH] at O; simp at O; omega
 ·rw[bg] at U; injection U with U; subst U; rw[lF]
theorem qa{ar G:Nat}{s:af}{xs:List Z}{i:Int}{a:Addr}{x:Z}{S:ep}(al:∀ x,(T.cells x).length=ar)(Y:cD s ar i a)(F:xs[i.toNat]?=some x)(aG:at_ (T.cells x) G (cX.cells S).length=cX.cells S)
  (H:E A (row T t ar s xs::m) w):L cX (a.add G) w S:=NS (mh al Y F H) (aej Y H) aG
theorem JG{ar G:Nat}{s:af}{xs:List Z}{i:Int}{a:Addr}{x:Z}{S:ep}(al:∀ x,(T.cells x).length=ar)(Y:cD s ar i a)(F:xs[i.toNat]?=some x)(aG:at_ (T.cells x) G (cX.cells S).length=cX.cells S)
  (H:E A (ro T s xs::m) w):L cX (a.add G) w S:=NS (Ap al Y F H) (Sk Y H) aG
def old(A:World):bu:=rR (fun aV=>ch.le (fun l=>A.heap[l]?) aV) (fun h k=>ch.le_trans k h)
theorem E.start(A:World):E A [old A] A:=
 ⟨rfl,rfl,rfl,Nat.le_refl _,fun l=>A.heap[l]?,fun _=>none,fun _=>.inr rfl,fun _ _ h=>h,fun _ _ h=>(by cases h),
  fun _=>none,fun _=>none,fun _=>.inl rfl,fun _ _ h=>(by cases h),fun _ _ h=>(by cases h),ch.le_refl _,trivial⟩
theorem E.below(H:E A (old A::m) w):Below A.heap.size A w:=
 ⟨H.os,H.tape,H.output,H.size,fun k aq=>by
  obtain⟨aV,a4,kZ⟩:=E.pD (y:=fun h k=>ch.le_trans k h) H;have e:A.heap[k]?=some (A.heap[k]'aq):=Array.getElem?_eq_getElem aq;rw[e]
  exact a4 _ _ (kZ _ _ e)⟩
theorem tA(a8:List Value):at_ a8 0 a8.length=a8:=by simp[at_]
theorem aHo{a8 xs:List Value}(h:a8.length=xs.length):jp a8 0 xs=xs:=by simp[jp,← h]
theorem ec{l:Nat}{x:Z}{k:Z→Prop}(i:Nat)(H:E A m w)(aw:front i m=aI l (T.cells x) t::bL)(aq:k x):ex (L T ⟨l,0,none⟩ w) k:=aj i H aw rfl (tA _) aq
theorem cV{l n:Nat}{x S:Z}{k:World→Prop}(al:∀ x,(T.cells x).length=n)(i:Nat)(H:E A m w)(aw:front i m=aI l (T.cells x) t::bL)(aq:∀ J,E A (aI l (T.cells S) t::bL) J→k J):ba T ⟨l,0,none⟩ S w k:=
 dx i H aw rfl (by rw[al,al]; omega) fun J H=>aq J (by rw[aHo (by rw[al,al])] at H; exact H)
end
end bb
namespace bb
open Go.RowKit Go.ChangeShapes Go.WideShapes Go.Deep
section
variable {H:Type} {enc:TypeId×Value→H} {P:Program} {A:World} {base:Nat} {spare:Nat→Bool} {held:Bool} {Z:Type}
def qO(enc:TypeId×Value→H)(P:Program)(A:World)(base:Nat)(spare:Nat→Bool)(held:Bool)(t:TypeId)(T:bn Z)(ay:Z→Prop):Prop:=
 ∀ ow a8 x,DataW.trod enc P A base spare held ow t a8=some x→∃ S:Z,a8=T.cells S∧ay S
theorem acn{t:TypeId}{k:IntKind}(aR:P.underlying t=some (.int k)):qO enc P A base spare held t (B k) fun n=>k.min≤n∧n≤k.max:=by
 intro ow a8 x h;obtain⟨n,rfl,_,hw⟩:=DataW.trod_int aR h;refine⟨n,rfl,?_⟩;simpa[Lit.wf] using hw
theorem aD1{t:TypeId}(aR:P.underlying t=some (.float .f64)):qO enc P A base spare held t gK fun l=>l<18446744073709551616:=by
 intro ow a8 x h;cases ow with
 |zero=>simp[DataW.trod] at h
 |succ n=>
  unfold DataW.trod at h;rw[aR] at h;split at h<;>try (simp_all; done)
  have aq:some (TypeDesc.float FloatKind.f64)=some (TypeDesc.float _):=‹_›;cases aq;split at h
  ·rename_i U;obtain⟨rfl,hw⟩:=U;exact⟨_,rfl,by simpa[Lit.wf] using hw⟩
  ·cases h
theorem anX{T:bn Z}{ar:Nat}(al:∀ x,(T.cells x).length=ar):∀ (xs:List Z) (D:Nat) (v:Value),(xs.flatMap T.cells)[D]?=some v→∃ i k x,D=i*ar+k∧k<ar∧xs[i]?=some x∧(T.cells x)[k]?=some v:=by
 intro xs;induction xs with
 |nil=>intro D v h; simp at h
 |cons x xs b_=>
  intro D v h;rw[List.flatMap_cons] at h;by_cases bI:D<ar
  ·rw[List.getElem?_append_left (by rw[al]; exact bI)] at h;exact⟨0,D,x,by omega,bI,rfl,h⟩
  ·rw[List.getElem?_append_right (by rw[al]; omega),al] at h;obtain⟨i,k,S,e,aq,aB,aJ⟩:=b_ _ _ h;refine⟨i+1,k,S,?_,aq,aB,aJ⟩;rw[Nat.add_mul,Nat.one_mul]; omega
theorem z_{n:Nat}{p:Nat→Z→Prop}(h:∀ i,i<n→∃ x,p i x):∃ xs:List Z,xs.length=n∧∀ i x,xs[i]?=some x→p i x:=by
 induction n with
 |zero=>exact⟨[],rfl,fun i x h=>(by simp at h)⟩
 |succ n b_=>
  obtain⟨xs,I,O⟩:=b_ fun i aw=>h i (by omega);obtain⟨x,F⟩:=h n (by omega);refine⟨xs++[x],by simp[I],fun i S aB=>?_⟩;by_cases aw:i<n
  ·rw[List.getElem?_append_left (by omega)] at aB; exact O i S aB
  ·rw[List.getElem?_append_right (by omega)] at aB;have:i=n:=by
    rcases Nat.lt_or_ge (i-xs.length) 1 with h | h
    ·omega
    ·rw[List.getElem?_eq_none (by simpa using h)] at aB; cases aB
   subst this;simp[I] at aB; subst aB; exact F
theorem ak3{w:World}{l G:Nat}{v:Value}(h:w.cell? ⟨l,G,none⟩=some v):∃ arr t ns,w.heap[l]?=some (.cells arr t ns)∧arr[G]?=some v:=by
 unfold World.cell? at h;split at h
 ·rename_i arr t ns ao; exact⟨arr,t,ns,ao,by simpa using h⟩
 ·simp at h
theorem Rr{t e:TypeId}{T:bn Z}{ay:Z→Prop}{ar:Nat}(aR:P.underlying t=some (.slice e))(U:P.cellsOf e=ar)(bD:0<ar)(al:∀ x,(T.cells x).length=ar)(O2:qO enc P A base spare held e T ay) :
  qO enc P A base spare held t X fun s=>(s.len≤s.cap∧s.cap≤9223372036854775807)∧∃ xs,(∀ x∈xs,ay x)∧cT T s xs fun l=>A.heap[l]?:=by
 intro ow a8 x h;rcases open_slice aR h with ⟨rfl,_⟩ | ⟨a,len,cap,y,n,K,bF,rfl,ao,I,O,hm,_,F⟩
 ·exact⟨⟨none,0,0⟩,rfl,⟨Nat.le_refl _,Nat.zero_le _⟩,[],(fun _ h=>by cases h),rfl,.inl rfl⟩
 ·refine⟨⟨some a,len,cap⟩,rfl,⟨I,Nat.le_trans O (Nat.le_of_ble_eq_true rfl)⟩,?_⟩;have aJ6:len≤y:=by rw[hm]; split<;>omega
  have each:∀ i,i<len→∃ S:Z,ay S∧∀ k v,(T.cells S)[k]?=some v→A.cell? (a.add (i*ar+k))=some v:=by
   intro i aw;obtain⟨al0,br,eN⟩:=F i (by omega);obtain⟨S,rfl,aB⟩:=O2 _ _ _ eN;rw[U] at br;obtain⟨_,_,iZ⟩:=World.cells?_some br;refine⟨S,aB,fun k v aJ=>?_⟩;have aq:=(List.getElem?_eq_some_iff.1 aJ).1;rw[al] at aq;have:=iZ k aq;rw[aJ] at this;rw[add_add] at this;exact this
  obtain⟨xs,g1,ri⟩:=z_ each;refine⟨xs,?_,g1,?_⟩
  ·intro x F;obtain⟨i,aw,e⟩:=List.getElem_of_mem F;exact (ri i x (by rw[List.getElem?_eq_getElem aw,e])).1
  ·cases xs with
   |nil=>exact .inl rfl
   |cons bx aLa=>
    right;obtain⟨_,g⟩:=ri 0 bx rfl;obtain⟨l,G,vC⟩:=a;have dv:0<(T.cells bx).length:=by rw[al]; exact bD
    have cO:=g 0 _ (List.getElem?_eq_getElem dv);have li:vC=none:=by simpa[Addr.add] using World.cell?_spot cO
    subst li;rw[lF] at cO;obtain⟨arr,tc,ns,ao,_⟩:=ak3 cO;refine⟨l,G,arr,tc,ns,rfl,ao,fun D v bI=>?_⟩;obtain⟨i,k,S,rfl,aq,aB,aJ⟩:=anX al _ _ _ bI;have:=(ri i S aB).2 k v aJ;rw[lF] at this;rw[uO ao] at this;exact this
theorem Rq{t:TypeId}{ik:Array Field}{n:Nat}{C:Z→List Value}{ay:Z→Prop}(aR:P.underlying t=some (.struct ik))(U:P.cellsOf t=n)
  (h:∀ a8:List Value,a8.length=n→(∀ (i off hl ar:Nat),(∃ f,ik[i]?=some f∧f.offset=off∧f.type=hl)→P.cellsOf hl=ar→∃ y x,DataW.trod enc P A base spare held y hl ((a8.drop off).take ar)=some x)→∃ S,a8=C S∧ay S) :
  qO enc P A base spare held t (hZ C) ay:=by
 intro ow a8 x F;obtain⟨xs,y,_,_,al,z1,am⟩:=DataW.trod_struct aR F;refine h a8 (al.trans U) ?_;rintro i off hl ar ⟨f,u1,rfl,rfl⟩ rfl;have:=am i f u1;have aw:i<ik.size:=(Array.getElem?_eq_some_iff.1 u1).1;exact⟨y,xs[i]'(by omega),by rw[this]; exact List.getElem?_eq_getElem _⟩
theorem q4{a8 a l:List Value}{G k:Nat}(h:(a8.drop G).take k=a)(O:a8.drop (G+k)=l):a8.drop G=a++l:=by
 rw[← h,← O,← List.drop_drop]; exact (List.take_append_drop _ _).symm
theorem Oo{a8:List Value}{n:Nat}(h:a8.length=n):a8.drop n=[]:=List.drop_eq_nil_of_le (by omega)
theorem Jg{Z:Type}{T:bn Z}{f:FuncId}{args:List Value}{w:World}{k:Z→World→Prop}(h:M P f args T w k):Calls P f args.toArray w fun e J=>∃ x,e=.returned (T.enc x)∧k x J:=
 h.mono fun e J h=>by
  cases e with
  |returned v=>obtain⟨x,rfl,h⟩:=h; exact⟨x,rfl,h⟩
  |_=>exact h.elim
theorem wc{t:TypeId}{T:bn Z}{ay:Z→Prop}{v:Value}{d:DataW H}{eB:List MemPlace}(tM:qO enc P A base spare held t T ay)(h:DataW.Trod enc P A base spare held t v d eB):∃ S,v.cells.toList=T.cells S∧ay S:=by
 obtain⟨y,hm⟩:=h;exact tM _ _ _ hm
theorem HM{v:Value}{T:bn Z}{S:Z}(h:v.cells.toList=T.cells S)(I:v.cells=#[v])(O:T.cells S=[T.enc S]):v=T.enc S:=by
 rw[I,O] at h; simpa using h
theorem F9{a8:Array Value}{C:Z→List Value}{S:Z}(h:(Value.agg a8).cells.toList=C S):Value.agg a8=.agg (C S).toArray:=by
 have:a8.toList=C S:=h;rw[← this]
end
end bb
namespace bb
open Go.RowKit
section
variable {A w J:World} {m:List bu}
theorem E.grown(H:E A m w)(ao:Below w.heap.size w J):E A m J:=by
 obtain⟨aV,h,a,bm,bB,al⟩:=H.mem;have old:∀ l G,w.heap[l]?=some G→J.heap[l]?=some G:=fun l G e=>by
  rw[ao.block l (Array.getElem?_eq_some_iff.1 e).1]; exact e
 exact⟨ao.os.trans H.os,ao.tape.trans H.tape,ao.output.trans H.output,Nat.le_trans H.size ao.size,aV,h,a,fun l G e=>old l G (bm l G e),fun l G e=>old l G (bB l G e),al⟩
theorem E.made{g:Nat}{G:Obj}(H:E A m w)(ao:Below w.heap.size w J)(R:w.heap.size≤g)(ai:J.heap[g]?=some G):E A (kk g G::m) J:=by
 have IR:=H.grown ao;obtain⟨aV,h,a,bm,bB,al⟩:=H.mem;have a4:aV g=none:=by
  cases e:aV g with
  |none=>rfl
  |some u=>have:=(Array.getElem?_eq_some_iff.1 (bm _ _ e)).1; omega
 have cn:h g=none:=by
  cases e:h g with
  |none=>rfl
  |some u=>have:=(Array.getElem?_eq_some_iff.1 (bB _ _ e)).1; omega
 have old:∀ l G,w.heap[l]?=some G→J.heap[l]?=some G:=fun l G e=>by
  rw[ao.block l (Array.getElem?_eq_some_iff.1 e).1]; exact e
 refine⟨IR.os,IR.tape,IR.output,IR.size,aV,fun x=>if x=g then some G else h x,?_,fun l G e=>old l G (bm l G e),?_,fun x=>if x=g then some G else none,h,?_,?_,?_,?_,al⟩
 ·intro x;by_cases e:x=g
  ·subst e; exact .inl a4
  ·simp only[e,if_false]; exact a x
 ·intro x v aJ;by_cases e:x=g
  ·subst e; simp at aJ; subst aJ; exact ai
  ·simp only[e,if_false] at aJ; exact old _ _ (bB x v aJ)
 ·intro x;by_cases e:x=g
  ·right; rw[e]; exact cn
  ·left; simp[e]
 ·intro x v aJ;by_cases e:x=g<;>simp[e] at aJ ⊢; exact aJ
 ·intro x v aJ;have:x≠g:=by intro e; rw[e,cn] at aJ; cases aJ
  simp[this,aJ]
 ·show (fun x=>if x=g then some G else none) g=some G
  simp
theorem E.ownsRow{Z:Type}{T:bn Z}{e:TypeId}{ar n:Nat}{v:Value}{xs:List Z}(al:∀ x,(T.cells x).length=ar)(aK:n=xs.length)(H:E A m w)(ao:Below w.heap.size w J)
  (ai:J.ownsRow w.heap.size e ar v n (xs.flatMap T.cells)):∃ s:af,v=X.enc s∧E A (row T e ar s xs::m) J:=by
 obtain⟨g1,⟨rfl,ah⟩ | ⟨g,cap,jM,rfl,R,cn,I,O,aH,bg⟩⟩:=ai
 ·have:xs=[]:=List.eq_nil_of_length_eq_zero (by omega);subst this;exact⟨fx,rfl,kJ T e ar (H.grown ao)⟩
 ·refine⟨⟨some ⟨g,0,none⟩,n,cap⟩,rfl,?_⟩;refine un (rest:=jM.toList.drop (n*ar)) rfl aK I ?_ ?_
  ·simp only[List.length_drop,Array.length_toList,aH,Nat.sub_mul];exact Nat.le_refl _
  ·have:=H.made ao R cn;have aQ:xs.flatMap T.cells++jM.toList.drop (n*ar)=jM.toList:=by rw[← bg,List.take_append_drop]
   rw[aQ];simpa[aI] using this
end
section
variable {A w J:World} {m bL:List bu} {aN aS:bu} {Z ep:Type} {T:bn Z} {cX:bn ep} {e8 vR:ch→Prop}
def bX(m:List bu)(e8:ch→Prop):Prop:=∀ aV h,iw m aV h→e8 aV
theorem bX.here{y:∀ {aV g5:ch},ch.le aV g5→e8 aV→e8 g5}:bX (rR e8 y::m) e8:=fun _ _ ⟨_,_,_,_,_,Y,_⟩=>Y
theorem bX.tail(k:bX m e8):bX (aN::m) e8:=fun aV _ ⟨_,O,_,_,_,_,al⟩=>k aV O al
theorem bX.imp(k:bX m e8)(h:∀ aV,e8 aV→vR aV):bX m vR:=fun aV q al=>h aV (k aV q al)
theorem bX.l4(k:bX m e8):∀ bL:List bu,bX (bL++m) e8
 |[]=>k
 |_::bL=>(bX.l4 k bL).tail
theorem bX.and(k:bX m e8)(fQ:bX m vR):bX m fun aV=>e8 aV∧vR aV:=fun aV q al=>⟨k aV q al,fQ aV q al⟩
theorem E.z6{y:∀ {aV g5:ch},ch.le aV g5→e8 aV→e8 g5}(k:bX m e8)(H:E A m w):E A (rR e8 y::m) w:=
 H.imp fun aV h al=>⟨fun _=>none,h,fun _=>.inl rfl,fun _ _ h=>(by cases h),ch.le_refl _,k aV h al,al⟩
theorem bX.pD(k:bX m e8)(H:E A m w):∃ aV:ch,(∀ l G,aV l=some G→w.heap[l]?=some G)∧e8 aV:=by
 obtain⟨aV,h,a,l,c,al⟩:=H.mem;exact⟨aV,l,k aV h al⟩
theorem E.ro{s:af}{xs:List Z}(k:bX m (cT T s xs))(H:E A m w):E A (ro T s xs::m) w:=H.z6 (y:=cT.mono) k
theorem bX.len{s:af}{xs:List Z}(k:bX m (cT T s xs))(H:E A m w):s.len=xs.length:=EM (H.ro k)
theorem bX.iq{ar:Nat}{s:af}{xs:List Z}{i:Int}(k:bX m (cT T s xs))(H:E A m w)(ah:0≤i)(I:i<xs.length):∃ a,cD s ar i a:=yZ (H.ro k) ah I
theorem bX.rd{ar:Nat}{s:af}{xs:List Z}{i:Int}{a:Addr}{x:Z}(k:bX m (cT T s xs))(al:∀ x,(T.cells x).length=ar)(Y:cD s ar i a)(F:xs[i.toNat]?=some x)(H:E A m w):oS w a (T.cells x):=Ap al Y F (H.ro k)
theorem bX.mY{ar G:Nat}{s:af}{xs:List Z}{i:Int}{a:Addr}{x:Z}{S:ep}(k:bX m (cT T s xs))(al:∀ x,(T.cells x).length=ar)(Y:cD s ar i a)(F:xs[i.toNat]?=some x)(aG:at_ (T.cells x) G (cX.cells S).length=cX.cells S)
  (H:E A m w):L cX (a.add G) w S:=JG al Y F aG (H.ro k)
theorem bX.Cu{s:af}{xs:List Z}(k:bX m (cT T s xs))(H:E A m w):k7 T w s xs:=W6 (H.ro k)
theorem cT.nil:cT T fx []=fun _=>True:=by funext aV; simp[cT,fx]
theorem bX.nil:bX m (cT T fx []):=fun _ _ _=>⟨rfl,.inl rfl⟩
theorem bX.below(k:bX m fun aV=>ch.le (fun l=>A.heap[l]?) aV)(H:E A m w):Below A.heap.size A w:=E.below (H.z6 (y:=fun h k=>ch.le_trans k h) k)
theorem bX.old{s:af}{xs:List Z}(k:bX m fun aV=>ch.le (fun l=>A.heap[l]?) aV)(h:cT T s xs fun l=>A.heap[l]?):bX m (cT T s xs):=k.imp fun _ a4=>cT.mono a4 h
end
section
variable {A w J:World} {m bL:List bu} {aN aS:bu} {Z ep:Type} {T:bn Z} {cX:bn ep} {t:TypeId} {e8 vR:ch→Prop}
theorem EN{ar:Nat}{s:af}{xs:List Z}(H:E A (row T t ar s xs::m) w):s.len≤s.cap:=by
 rcases oF H with ⟨rfl,rfl,_⟩ | ⟨l,rest,_,_,h,_⟩
 ·exact Nat.le_refl _
 ·exact h
theorem cT.sub{ar:Nat}{s r:af}{xs:List Z}{i h y:Int}{aV:ch}(al:∀ x,(T.cells x).length=ar)(aG:Sub s ar i h y r)(cn:h≤xs.length)(k:cT T s xs aV):cT T r ((xs.take h.toNat).drop i.toNat) aV:=by
 obtain⟨br,eN,iZ⟩:=Ic aG;obtain⟨ah,I,O,aH,_⟩:=aG;have g1:((xs.take h.toNat).drop i.toNat).length=(h-i).toNat:=by rw[List.length_drop,List.length_take]; omega
 refine⟨by rw[g1,br],?_⟩;by_cases e:y=i
 ·left;exact List.eq_nil_of_length_eq_zero (by rw[g1]; omega)
 ·rcases k.2 with rfl | ⟨l,G,arr,tc,ns,df,dT,gI⟩
  ·left; simp
  ·right;refine⟨l,G+i.toNat*ar,arr,tc,ns,iZ l G df e,dT,fun D v aJ=>?_⟩;have a6:xs.flatMap T.cells=(xs.take i.toNat).flatMap T.cells++(((xs.take h.toNat).drop i.toNat).flatMap T.cells++(xs.drop h.toNat).flatMap T.cells):=by
    have c_:xs.take i.toNat=(xs.take h.toNat).take i.toNat:=by rw[List.take_take,Nat.min_eq_left (by omega)]
    rw[c_,← List.append_assoc,← List.flatMap_append,List.take_append_drop,← List.flatMap_append,List.take_append_drop]
   have mW:((xs.take i.toNat).flatMap T.cells).length=i.toNat*ar:=by rw[nU al,List.length_take]; congr 1; omega
   rw[Nat.add_assoc];refine gI (i.toNat*ar+D) v ?_;rw[a6,← mW,List.getElem?_append_right (by omega),Nat.add_sub_cancel_left];rw[List.getElem?_append_left (List.getElem?_eq_some_iff.1 aJ).1]; exact aJ
theorem bX.sub{ar:Nat}{s r:af}{xs:List Z}{i h y:Int}(k:bX m (cT T s xs))(al:∀ x,(T.cells x).length=ar)(aG:Sub s ar i h y r)(cn:h≤xs.length):bX m (cT T r ((xs.take h.toNat).drop i.toNat)):=k.imp fun _=>cT.sub al aG cn
theorem Sl{ar:Nat}{s r:af}{xs:List Z}{h:Int}(al:∀ x,(T.cells x).length=ar)(aG:Sub s ar 0 h h r)(cn:h≤xs.length)(H:E A (row T t ar s xs::m) w):r=⟨s.a,h.toNat,h.toNat⟩∧E A (row T t ar r (xs.take h.toNat)::m) w:=by
 obtain⟨ah,I,O,aH,rfl⟩:=aG;have e:(⟨if h.toNat=(0:Int).toNat then s.a else s.a.map (·.add ((0:Int).toNat*ar)),h.toNat-(0:Int).toNat,h.toNat-(0:Int).toNat⟩:af)=⟨s.a,h.toNat,h.toNat⟩:=by
  have:(fun x:Addr=>x.add 0)=id:=by funext x; simp[Addr.add]
  simp[this]
 refine⟨e,?_⟩;rw[e];rcases oF H with ⟨rfl,rfl,lw⟩ | ⟨l,rest,br,eN,iZ,nt,H⟩
 ·have:h.toNat=0:=by simp at cn; omega
  rw[this]; exact kJ T t ar lw
 ·refine un (rest:=(xs.drop h.toNat).flatMap T.cells++rest) br (by simp; omega) (Nat.le_refl _) (by simp) ?_;rw[← List.append_assoc,← List.flatMap_append,List.take_append_drop]; exact H
end
end bb
namespace bb
open Go.RowKit Go.ChangeMaps
section
variable {A w J:World} {m bL:List bu} {aN aS:bu} {Z ep:Type} {T:bn Z} {cX:bn ep} {t:TypeId} {e8 vR:ch→Prop} {k:IntKind}
theorem aBJ{p:Nat→Prop}:∀ n,p n→∃ y,y≤n∧p y∧∀ D,p D→y≤D:=by
 intro n;induction n using Nat.strongRecOn with
 |_ n b_=>
  intro h;by_cases c:∃ D,D<n∧p D
  ·obtain⟨D,I,O⟩:=c;obtain⟨y,aH,bg,dh⟩:=b_ D I O;exact⟨y,by omega,bg,dh⟩
  ·exact⟨n,Nat.le_refl n,h,fun D bI=>Nat.le_of_not_lt fun dv=>c ⟨D,dv,bI⟩⟩
theorem Ek{bp:Type}{body:bp→World→(bp→World→Prop)→Prop}{s:bp}{w:World}(aV:Nat→bp→World→Prop)(n:Nat)(ah:aV n s w)
  (h:∀ n s w,aV n s w→∀ aa,(∀ y fy J,y<n→aV y fy J→aa fy J)→body s w aa):eZ body s w:=by
 classical
 have pick:∀ s w,∃ y,(∃ n,aV n s w)→aV y s w∧∀ D,aV D s w→y≤D:=by
  intro s w;by_cases c:∃ n,aV n s w
  ·obtain⟨n,aK⟩:=c;obtain⟨y,_,I,O⟩:=aBJ (p:=fun n=>aV n s w) n aK;exact⟨y,fun _=>⟨I,O⟩⟩
  ·exact⟨0,fun U=>absurd U c⟩
 refine⟨fun s w=>∃ n,aV n s w,fun s w=>(pick s w).choose,⟨n,ah⟩,fun s w a4=>?_⟩;obtain⟨I,O⟩:=(pick s w).choose_spec a4;refine h _ s w I _ fun y fy J hm DP=>⟨⟨y,DP⟩,?_⟩
 exact Nat.lt_of_le_of_lt (((pick fy J).choose_spec ⟨y,DP⟩).2 y DP) hm
structure Way{Z:Type}(T:bn Z)(k:IntKind)(arr:Array MapEntry)(c:Nat)(es:List (Int×Z))(left:List (Int×Z))(jM:Option (Int×Z))(hY:Nat)(seen:Array Nat)(bY:Nat):Prop where
 iI:sw T k arr es
 born:qM arr c
 dup:(es.map (·.1)).Nodup
 aag:∀ x∈arr.toList,x.born<hY
 le:hY≤bY
 abu:hY≤c
 GW:(leftOf arr seen).toList.map (fun e=>(e.key,e.val))=left.map fun p=>(.int k p.1,T.enc p.2)
 abt:(left.map (·.1)).Nodup
 sub:∀ p∈left,p∈es
 ao9:∀ p,jM=some p→bY=c∧∃ e∈arr.toList,∃ s,seen=Array.push s (MapEntry.born e)∧e.key=.int k p.1∧e.val=T.enc p.2
def rv(T:bn Z)(k:IntKind)(r it:Nat)(es left:List (Int×Z))(jM:Option (Int×Z)):bu:=
 hT fun arr=>hT fun c=>hT fun hY=>hT fun seen=>hT fun bY=>dt [ll (Way T k arr c es left jM hY seen bY),kk r (.map arr c),kk it (.mapIter (some r) hY seen bY)]
theorem R_{r it:Nat}{es left:List (Int×Z)}{jM:Option (Int×Z)}(H:E A (rv T k r it es left jM::m) w):∃ arr c hY seen bY,Way T k arr c es left jM hY seen bY∧E A (kk r (.map arr c)::kk it (.mapIter (some r) hY seen bY)::m) w:=by
 obtain⟨arr,H⟩:=H.ex;obtain⟨c,H⟩:=H.ex;obtain⟨hY,H⟩:=H.ex;obtain⟨seen,H⟩:=H.ex;obtain⟨bY,H⟩:=H.ex;have H:=H.open_;obtain⟨h,H⟩:=E.vu (e8:=Way T k arr c es left jM hY seen bY) H;exact⟨arr,c,hY,seen,bY,h,H⟩
theorem ad1{r it:Nat}{es left:List (Int×Z)}{jM:Option (Int×Z)}{arr:Array MapEntry}{c hY bY:Nat}{seen:Array Nat}(h:Way T k arr c es left jM hY seen bY)(H:E A (kk r (.map arr c)::kk it (.mapIter (some r) hY seen bY)::m) w):E A (rv T k r it es left jM::m) w:=
 E.mF arr (E.mF c (E.mF hY (E.mF seen (E.mF bY (E.shut (bL:=[ll _,kk r (.map arr c),kk it (.mapIter (some r) hY seen bY)]) (E.vK h H))))))
theorem HZ{r it:Nat}{es left:List (Int×Z)}{jM:Option (Int×Z)}(H:E A (rv T k r it es left jM::m) w):E A (cZ T k r es::m) w:=by
 obtain⟨arr,c,hY,seen,bY,h,H⟩:=R_ H;exact KE h.iI h.born h.dup ((H.front 1).drop)
theorem aBK(arr:Array MapEntry):leftOf arr #[]=arr:=by
 unfold leftOf;exact Array.filter_eq_self.2 fun x F=>by simp
theorem Sj{r:Nat}{es:List (Int×Z)}{aa:Addr→World→Prop}{y:Option Nat}(i:Nat)(H:E A m w)(aw:front i m=cZ T k r es::bL)(hm:y=some r)
  (aq:∀ it J,E A (rv T k r it es es none::bL) J→aa ⟨it,0,none⟩ J):H2 y w aa:=by
 obtain⟨arr,c,I,x_,O,H⟩:=yF (aw▸H.front i);subst hm;refine⟨arr,c,H.get,aq _ _ (ad1 ⟨I,x_,O,x_.1,Nat.le_refl c,Nat.le_refl c,by rw[aBK]; exact I,O,fun p aF=>aF,fun p aF=>by cases aF⟩ ?_)⟩;exact (H.alloc _).front 1
theorem aGX{r:Nat}{G u:Obj}(H:E A (kk r G::m) w):E A (kk r u::m) (setBlock w r u):=H.put rfl rfl rfl rfl
theorem aBL(arr:Array MapEntry)(seen:Array Nat)(l:Nat):(leftOf arr (seen.push l)).toList=(leftOf arr seen).toList.filter fun x=>x.born != l:=by
 unfold leftOf;simp only[Array.toList_filter,List.filter_filter];refine List.filter_congr fun x _=>?_;simp only[Array.contains_push,Bool.not_or];rw[Bool.and_comm]; rfl
theorem KO{IA aJu:Type}{g:IA→aJu}:∀ {N:List IA},(N.map g).Nodup→∀ x∈N,∀ S∈N,g x=g S→x=S
 |[],_,x,F,_,_,_=>by cases F
 |z::N,h,x,F,S,aB,e=>by
  have fp:=List.nodup_cons.1 h;rcases List.mem_cons.1 F with wA | wA
  ·rcases List.mem_cons.1 aB with yo | yo
   ·rw[wA,yo]
   ·exact absurd (List.mem_map.2 ⟨S,yo,by rw[← e,wA]⟩) fp.1
  ·rcases List.mem_cons.1 aB with yo | yo
   ·exact absurd (List.mem_map.2 ⟨x,wA,by rw[e,yo]⟩) fp.1
   ·exact KO fp.2 x wA S yo e
theorem aBM{arr:Array MapEntry}{seen:Array Nat}{left:List (Int×Z)}{e:MapEntry}{p:Int×Z}(ao:(arr.toList.map (·.born)).Nodup)(ag:(left.map (·.1)).Nodup)(al:(leftOf arr seen).toList.map (fun e=>(e.key,e.val))=left.map fun p=>(.int k p.1,T.enc p.2))
  (he:e∈(leftOf arr seen).toList) (aQ:e.key=.int k p.1) :
  (leftOf arr (seen.push e.born)).toList.map (fun e=>(e.key,e.val))=(left.filter fun q=>q.1 != p.1).map fun p=>(.int k p.1,T.enc p.2):=by
 rw[aBL];have BN:(leftOf arr seen).toList.Sublist arr.toList:=by unfold leftOf; rw[Array.toList_filter]; exact List.filter_sublist
 have ZI:((leftOf arr seen).toList.map (·.born)).Nodup:=ao.sublist (BN.map _);generalize (leftOf arr seen).toList=aN at al he ZI;have rX:aN.map (·.key)=left.map fun p=>Value.int k p.1:=by
  have:=congrArg (List.map Prod.fst) al;simpa[List.map_map,Function.comp_def] using this
 have aqi:(aN.map (·.key)).Nodup:=by
  rw[rX];have e:(left.map fun p=>Value.int k p.1)=(left.map (·.1)).map (Value.int k):=by simp
  rw[e];exact List.Pairwise.map _ (fun a l h e=>h (by injection e)) ag
 have I:(aN.filter fun x=>x.born != e.born)=aN.filter ((fun aBD:Value×Value=>RowKit.intOf aBD.1 != p.1)∘fun x=>(x.key,x.val)):=by
  refine List.filter_congr fun x F=>?_;have:x.key∈aN.map (·.key):=List.mem_map.2 ⟨x,F,rfl⟩;rw[rX] at this;obtain⟨q,a5,eq⟩:=List.mem_map.1 this;have a6:RowKit.intOf x.key=q.1:=by rw[← eq]; rfl
  show (x.born != e.born)=(RowKit.intOf x.key != p.1)
  rw[a6,Bool.eq_iff_iff,bne_iff_ne,bne_iff_ne];constructor
  ·intro h zW;have:x=e:=KO aqi x F e he (by rw[← eq,aQ,zW]);exact h (by rw[this])
  ·intro h ao1;have:x=e:=KO ZI x F e he ao1;rw[this,aQ] at eq;injection eq with _ eq
   exact h eq
 rw[I,← List.filter_map,al,List.filter_map];rfl
theorem Rc{r it:Nat}{es left:List (Int×Z)}{jM:Option (Int×Z)}{aa:Option (Value×Value)→World→Prop}{a:Addr}(i:Nat)(H:E A m w)(aw:front i m=rv T k r it es left jM::bL)(Y:a=⟨it,0,none⟩)
  (ah:left=[]→E A (rv T k r it es left jM::bL) w→aa none w)
  (I:∀ p∈left,∀ J,E A (rv T k r it es (left.filter fun q=>q.1 != p.1) (some p)::bL) J→aa (some (.int k p.1,T.enc p.2)) J):k0 a w aa:=by
 have lw:E A (rv T k r it es left jM::bL) w:=aw▸H.front i;obtain⟨arr,c,hY,seen,bY,h,gV⟩:=R_ lw;have ao:=gV.get;have ab:=(gV.front 1).get;refine⟨it,r,hY,seen,bY,arr,c,Y,ab,ao,h.aag,h.le,fun bD=>ah ?_ lw,fun e he dz G_=>?_⟩
 ·have aK:(leftOf arr seen).toList=[]:=by
   apply List.eq_nil_of_length_eq_zero;simpa using bD
  have al:=h.GW;rw[aK] at al;cases GW:left with
  |nil=>rfl
  |cons p q=>rw[GW] at al; cases al
 ·have api:e∈arr.toList:=by
   unfold leftOf at he;simp at he ⊢;exact he.1
  have sU:(e.key,e.val)∈(leftOf arr seen).toList.map fun e=>(e.key,e.val):=List.mem_map.2 ⟨e,he,rfl⟩;rw[h.GW] at sU;obtain⟨p,aF,YN⟩:=List.mem_map.1 sU;have aQ:e.key=.int k p.1:=(Prod.mk.inj YN).1.symm;have a6:e.val=T.enc p.2:=(Prod.mk.inj YN).2.symm;rw[aQ,a6];have g4:E A (kk r (.map arr c)::kk it (.mapIter (some r) hY seen bY)::bL) dz:=by
   rcases G_ with rfl | rfl
   ·exact gV
   ·exact gV.drew
  refine I p aF _ (ad1 (arr:=arr) (c:=c) (hY:=hY) (seen:=seen.push e.born) (bY:=c) ⟨h.iI,h.born,h.dup,h.aag,h.abu,h.abu,?_,?_,fun q a5=>h.sub q (List.mem_filter.1 a5).1,fun q a5=>?_⟩ ((aGX (g4.front 1)).front 1))
  ·exact aBM h.born.2 h.abt h.GW he aQ
  ·exact h.abt.sublist (List.filter_sublist.map _)
  ·cases a5;exact⟨rfl,e,api,seen,rfl,aQ,a6⟩
theorem OJ{r it:Nat}{es left:List (Int×Z)}{p:Int×Z}{aa:Int×Z→Prop}{a:Addr}(i:Nat)(H:E A m w)(aw:front i m=rv T k r it es left (some p)::bL)(Y:a=⟨it,0,none⟩)(aq:aa p):ex (kg T k a w) aa:=by
 have lw:E A (rv T k r it es left (some p)::bL) w:=aw▸H.front i;obtain⟨arr,c,hY,seen,bY,h,gV⟩:=R_ lw;have ao:=gV.get;have ab:=(gV.front 1).get;obtain⟨rfl,e,he,s,rfl,aQ,a6⟩:=h.ao9 p rfl;exact⟨p,⟨it,r,hY,s,arr,bY,e,Y,ab,ao,he,h.born.2,aQ,a6⟩,aq⟩
theorem Bi{f:ep→bu}{cI cL:List ep}{e:ep}(H:E A (dt ((cI++e::cL).map f)::m) w):E A (f e::dt ((cI++cL).map f)::m) w:=by
 have H:=H.open_;have aF:((cI++e::cL).map f++m).Perm ((cI++cL).map f++(f e::m)):=by
  simp only[List.map_append,List.map_cons,List.append_assoc,List.cons_append];refine List.Perm.append_left _ ?_;exact (List.perm_middle (l₁:=cL.map f) (a:=f e) (l₂:=m)).symm
 exact (E.shut (H.perm aF)).front 1
theorem we{f:ep→bu}{cI cL:List ep}{e:ep}(H:E A (f e::dt ((cI++cL).map f)::m) w):E A (dt ((cI++e::cL).map f)::m) w:=by
 have H:=(H.front 1).open_;have aF:((cI++cL).map f++(f e::m)).Perm ((cI++e::cL).map f++m):=by
  simp only[List.map_append,List.map_cons,List.append_assoc,List.cons_append];refine List.Perm.append_left _ ?_;exact List.perm_middle
 exact E.shut (H.perm aF)
end
end bb
namespace bb
open Go.RowKit
section
variable {A w J:World} {m bL:List bu} {aN aS:bu} {Z ep:Type} {T:bn Z} {cX:bn ep} {t:TypeId}
theorem Hy{ar az:Nat}{n:Int}{z:Z}{aa:af→World→Prop}(ah:0≤n)(I:(az:Int)*n≤281474976710656)(O:n≤9223372036854775807)(H:E A m w)
  (aq:∀ l J,E A (row T t ar ⟨some ⟨l,0,none⟩,n.toNat,n.toNat⟩ (List.replicate n.toNat z)::m) J→aa ⟨some ⟨l,0,none⟩,n.toNat,n.toNat⟩ J):yG t T az z n n w aa:=
 ⟨ah,Int.le_refl _,I,O,aq _ _ (um (by simp) (H.alloc _))⟩
theorem Jo{ar:Nat}{s l:af}{xs new:List Z}{aa:Nat→World→Prop}(al:∀ x,(T.cells x).length=ar)(H:E A (row T t ar s xs::m) w)(aK:k7 T w l new)(he:new.length=xs.length)
  (aq:∀ J,E A (row T t ar s new::m) J→aa new.length J):Dz T ar s l w aa:=by
 have aG:=gn H;refine⟨new,by rw[← aK.1,aG]; omega,?_,?_⟩
 ·exact⟨rfl,aK.2⟩
 ·rcases oF H with ⟨rfl,rfl,lw⟩ | ⟨akt,rest,O,aH,bg,dh,H⟩
  ·have:new=[]:=List.length_eq_zero_iff.1 he;subst this;exact aq _ (kJ T t ar lw)
  ·rw[O];have mZ:(xs.flatMap T.cells).length=xs.length*ar:=nU al _;have mB:(new.flatMap T.cells).length=new.length*ar:=nU al _;refine⟨CJ H (by simp[mZ,he]),aq _ ?_⟩;have:=Ai (new.flatMap T.cells) 0 0 _ _ H (by simp[mZ,mB,he]);refine un (rest:=rest) O (by rw[he]; exact aH) bg dh ?_;have e:jp (xs.flatMap T.cells++rest) (0+0) (new.flatMap T.cells)=new.flatMap T.cells++rest:=by
    unfold jp;simp only[Nat.zero_add,Nat.add_zero,List.take_zero,List.nil_append];rw[mB,he,← mZ,List.drop_left]
   rw[e] at this;exact this
def dc(ar:Nat)(m:List bu)(T:bn Z)(s:af)(xs:List Z):Prop:=∀ (A:World) (bL:List bu) (w:World),E A (bL++m) w →
 s.len=xs.length∧k7 T w s xs∧∀ i:Int,0≤i→i<xs.length→∃ a,cD s ar i a∧a.spot=none∧∀ x,xs[i.toNat]?=some x→oS w a (T.cells x)
theorem dc.ro{ar:Nat}{s:af}{xs:List Z}(al:∀ x,(T.cells x).length=ar)(k:bX m (cT T s xs)):dc ar m T s xs:=fun A bL w H=>by
 have H:=H.ro (k.l4 bL);refine⟨EM H,W6 H,fun i ah I=>?_⟩;obtain⟨a,Y⟩:=yZ (ar:=ar) (i:=i) H ah I;exact⟨a,Y,Sk Y H,fun x F=>Ap al Y F H⟩
theorem dc.row{ar:Nat}{s:af}{xs:List Z}(al:∀ x,(T.cells x).length=ar)(i:Nat)(aw:front i m=row T t ar s xs::bL):dc ar m T s xs:=fun A cI w H=>by
 have aF:(cI++m).Perm (bb.row T t ar s xs::(cI++bL)):=((OU i m).append_left cI).trans (by rw[aw]; exact List.perm_middle);have H:=H.perm aF;refine⟨gn H,C8 H,fun i ah I=>?_⟩;obtain⟨a,Y⟩:=kI (ar:=ar) (i:=i) H ah I;exact⟨a,Y,aej Y H,fun x F=>mh al Y F H⟩
theorem dc.l4{ar:Nat}{s:af}{xs:List Z}(k:dc ar m T s xs)(bL:List bu):dc ar (bL++m) T s xs:=fun A cI w H=>k A (cI++bL) w (by rw[List.append_assoc]; exact H)
theorem dc.tail{ar:Nat}{s:af}{xs:List Z}(k:dc ar m T s xs):dc ar (aN::m) T s xs:=k.l4 [aN]
theorem dc.len{ar:Nat}{s:af}{xs:List Z}(k:dc ar m T s xs)(H:E A m w):s.len=xs.length:=(k A [] w H).1
theorem dc.iq{ar:Nat}{s:af}{xs:List Z}{i:Int}(k:dc ar m T s xs)(H:E A m w)(ah:0≤i)(I:i<xs.length):∃ a,cD s ar i a:=by
 obtain⟨a,h,_⟩:=(k A [] w H).2.2 i ah I; exact⟨a,h⟩
theorem aa6{ar:Nat}{s:af}{i:Int}{a l:Addr}(h:cD s ar i a)(k:cD s ar i l):a=l:=by
 obtain⟨c,U,_,_,rfl⟩:=h;obtain⟨d,ag,_,_,rfl⟩:=k;rw[U] at ag; injection ag with ag; rw[ag]
theorem dc.rd{ar:Nat}{s:af}{xs:List Z}{i:Int}{a:Addr}{x:Z}(k:dc ar m T s xs)(Y:cD s ar i a)(F:xs[i.toNat]?=some x)(H:E A m w):oS w a (T.cells x):=by
 have dv:=(List.getElem?_eq_some_iff.1 F).1;have ah:0≤i:=by obtain⟨_,_,h,_⟩:=Y; exact h
 obtain⟨l,ao,_,h⟩:=(k A [] w H).2.2 i ah (by omega);rw[aa6 Y ao]; exact h x F
theorem dc.mY{ar G:Nat}{s:af}{xs:List Z}{i:Int}{a:Addr}{x:Z}{S:ep}(k:dc ar m T s xs)(Y:cD s ar i a)(F:xs[i.toNat]?=some x)(aG:at_ (T.cells x) G (cX.cells S).length=cX.cells S)
  (H:E A m w):L cX (a.add G) w S:=by
 have dv:=(List.getElem?_eq_some_iff.1 F).1;have ah:0≤i:=by obtain⟨_,_,h,_⟩:=Y; exact h
 obtain⟨l,ao,li,h⟩:=(k A [] w H).2.2 i ah (by omega);rw[aa6 Y ao]; exact NS (h x F) li aG
theorem dc.Cu{ar:Nat}{s:af}{xs:List Z}(k:dc ar m T s xs)(H:E A m w):k7 T w s xs:=(k A [] w H).2.1
theorem add_add{a:Addr}(h:a.spot=none)(y n:Nat):(a.add y).add n=a.add (y+n):=by
 obtain⟨l,G,s⟩:=a;simp only at h;subst h;rw[lF,lF,lF,Nat.add_assoc]
theorem bX.Y_{ar G KV:Nat}{s:af}{xs:List Z}{i:Int}{a:Addr}{x:Z}{S:ep}(k:bX m (cT T s xs))(al:∀ x,(T.cells x).length=ar)(Y:cD s ar i a)(F:xs[i.toNat]?=some x)(aG:at_ (T.cells x) (G+KV) (cX.cells S).length=cX.cells S)
  (H:E A m w):L cX ((a.add G).add KV) w S:=by
 rw[add_add (Sk Y (H.ro k))]; exact k.mY al Y F aG H
end
section
variable {A w J:World} {m bL:List bu} {Z ep:Type} {T:bn Z} {cX:bn ep} {t:TypeId}
theorem aHs{aN c K z:List Value}{G:Nat}(h:G+z.length≤c.length):jp (aN++(c++K)) (aN.length+G) z=aN++(jp c G z++K):=by
 unfold jp;rw[List.take_length_add_append,Nat.add_assoc,List.drop_length_add_append,List.take_append_of_le_length (by omega),List.drop_append_of_le_length (by omega)];simp
theorem ES{ar G:Nat}{s:af}{xs:List Z}{i:Int}{a:Addr}{x S:Z}{z:ep}{aa:World→Prop}(al:∀ x,(T.cells x).length=ar)(Y:cD s ar i a)(F:xs[i.toNat]?=some x)(aB:jp (T.cells x) G (cX.cells z)=T.cells S)(ai:G+(cX.cells z).length≤ar)
  (H:E A (row T t ar s xs::m) w) (aq:∀ J,E A (row T t ar s (xs.set i.toNat S)::m) J→aa J):ba cX (a.add G) z w aa:=by
 obtain⟨c,U,ah,I,rfl⟩:=Y;rcases oF H with ⟨rfl,rfl,H⟩ | ⟨l,rest,O,aH,bg,dh,H⟩
 ·cases U
 ·rw[O] at U; injection U with U; subst U
  have aw:i.toNat<xs.length:=by omega
  obtain⟨_,rfl⟩:=List.getElem?_eq_some_iff.1 F;have ym:((xs.take i.toNat).flatMap T.cells).length=i.toNat*ar:=by rw[nU al,List.length_take]; congr 1; omega
  have ag:xs.drop i.toNat=xs[i.toNat]::xs.drop (i.toNat+1):=List.drop_eq_getElem_cons aw;have ri:xs.flatMap T.cells++rest=(xs.take i.toNat).flatMap T.cells++(T.cells xs[i.toNat]++((xs.drop (i.toNat+1)).flatMap T.cells++rest)):=by
   have:xs.flatMap T.cells=(xs.take i.toNat).flatMap T.cells++(xs.drop i.toNat).flatMap T.cells:=by rw[← List.flatMap_append,List.take_append_drop]
   rw[this,ag,List.flatMap_cons]; simp only[List.append_assoc]
  have ar3:(xs.set i.toNat S).flatMap T.cells++rest=(xs.take i.toNat).flatMap T.cells++(T.cells S++((xs.drop (i.toNat+1)).flatMap T.cells++rest)):=by
   have:xs.set i.toNat S=xs.take i.toNat++S::xs.drop (i.toNat+1):=by rw[List.set_eq_take_append_cons_drop,if_pos aw]
   rw[this,List.flatMap_append,List.flatMap_cons]; simp only[List.append_assoc]
  rw[lF,lF];rw[ri] at H;have yb:=al xs[i.toNat];have kZ:0+i.toNat*ar+G+(cX.cells z).length≤((xs.take i.toNat).flatMap T.cells++(T.cells xs[i.toNat]++((xs.drop (i.toNat+1)).flatMap T.cells++rest))).length:=by
   simp only[List.length_append,ym,yb]; omega
  refine⟨CJ H kZ,aq _ ?_⟩;have il:=Ai (cX.cells z) (0+i.toNat*ar+G) 0 _ _ H (by simpa using kZ);refine un O (by simpa using aH) bg dh ?_;rw[ar3,← aB];have e:=aHs (aN:=(xs.take i.toNat).flatMap T.cells) (c:=T.cells xs[i.toNat]) (K:=(xs.drop (i.toNat+1)).flatMap T.cells++rest) (z:=cX.cells z) (G:=G) (by omega);rw[ym] at e;rw[show 0+i.toNat*ar+G+0=i.toNat*ar+G from by omega,e] at il;exact il
end
theorem L7(n:Int):IntKind.u8.wrap n=n%256:=by simp[IntKind.wrap,IntKind.bits,IntKind.signed]
theorem ls(n:Int):IntKind.u64.wrap n=n%18446744073709551616:=by simp[IntKind.wrap,IntKind.bits,IntKind.signed]
theorem qH(n:Int):IntKind.i64.wrap n=(n+9223372036854775808)%18446744073709551616-9223372036854775808:=by
 rw[IntKind.wrap_i64]
theorem kN(n:Int)(ah:0≤n)(I:n<2^64):IntKind.u64.wrap n=n:=by rw[ls]; omega
theorem aIN(n:Int)(ah:0≤n)(I:n<2^8):IntKind.u8.wrap n=n:=by rw[L7]; omega
theorem aD4(k:IntKind)(D:Nat)(bI:D≤k.bits)(aq:∀ n:Int,0≤n→n<2^D→k.wrap n=n)(i:Nat)
  (S x:Int) (aau:0≤S) (aB:S<2^i) (aav:S<2^D) (aas:0≤x) (F:x%2^i=0) (aat:x<2^D):bits .or k S x=S+x:=by
 have h:=bits_join k D bI aq i x S aas F aat aau aB aav;obtain⟨a,rfl⟩:=Int.eq_ofNat_of_zero_le aas;obtain⟨l,rfl⟩:=Int.eq_ofNat_of_zero_le aau;have Y:a<2^D:=by exact_mod_cast aat
 have ao:l<2^D:=by exact_mod_cast aav
 rw[(bits_nat k D bI aq a l Y ao).2] at h;rw[(bits_nat k D bI aq l a ao Y).2,Nat.or_comm,h];omega
theorem aj7{x:Int}(ah:0≤x)(I:x<256):bits .and .u8 x 127=x%128:=bits_mask .u8 8 (by decide) aIN 7 (by decide) x ah I
theorem aj6{x:Int}(ah:0≤x)(I:x<18446744073709551616):bits .and .u64 x 1=x%2:=bits_mask .u64 64 (by decide) kN 1 (by decide) x ah I
theorem aD3{x:Int}(ah:0≤x)(I:x<256):bits .or .u8 x 128=128+x%128:=by
 obtain⟨a,rfl⟩:=Int.eq_ofNat_of_zero_le ah;have Y:a<256:=by omega
 have key:∀ a:Fin 256,bits .or .u8 ((a.1:Nat):Int) 128=128+((a.1:Nat):Int)%128:=by decide +kernel
 exact key ⟨a,Y⟩
theorem KW(a:Nat)(h:a<18446744073709551616):(BitVec.ofInt 64 (a:Int)).toNat=a:=by
 rw[BitVec.ofInt_natCast,BitVec.toNat_ofNat]; exact Nat.mod_eq_of_lt (by omega)
theorem aI3{x:Int}(ah:0≤x)(I:x<18446744073709551616):bits .xor .u64 x 0=x:=by
 obtain⟨a,rfl⟩:=Int.eq_ofNat_of_zero_le ah;show IntKind.u64.wrap ((BitVec.ofInt 64 (a:Int) ^^^ BitVec.ofInt 64 0).toNat:Int)=_
 have e:BitVec.ofInt 64 0=0#64:=rfl;rw[e,BitVec.xor_zero,KW a (by omega),ls]; omega
theorem afQ{x:Int}(ah:0≤x)(I:x<18446744073709551616):bits .xor .u64 x 18446744073709551615=18446744073709551615-x:=by
 obtain⟨a,rfl⟩:=Int.eq_ofNat_of_zero_le ah;show IntKind.u64.wrap ((BitVec.ofInt 64 (a:Int) ^^^ BitVec.ofInt 64 18446744073709551615).toNat:Int)=_
 have e:BitVec.ofInt 64 18446744073709551615=BitVec.allOnes 64:=by decide
 rw[e,BitVec.xor_allOnes,BitVec.toNat_not,KW a (by omega),ls]; omega
theorem aI2{x:Int}(ah:0≤x)(I:x<9223372036854775808):bits .xor .i64 x 0=x:=by
 obtain⟨a,rfl⟩:=Int.eq_ofNat_of_zero_le ah;show IntKind.i64.wrap ((BitVec.ofInt 64 (a:Int) ^^^ BitVec.ofInt 64 0).toNat:Int)=_
 have e:BitVec.ofInt 64 0=0#64:=rfl;rw[e,BitVec.xor_zero,KW a (by omega),qH]; omega
theorem aI4{x:Int}(ah:0≤x)(I:x<9223372036854775808):bits .xor .i64 x (-1)=-x-1:=by
 obtain⟨a,rfl⟩:=Int.eq_ofNat_of_zero_le ah;show IntKind.i64.wrap ((BitVec.ofInt 64 (a:Int) ^^^ BitVec.ofInt 64 (-1)).toNat:Int)=_
 have e:BitVec.ofInt 64 (-1)=BitVec.allOnes 64:=by decide
 rw[e,BitVec.xor_allOnes,BitVec.toNat_not,KW a (by omega),qH]; omega
section
variable {A w J:World} {m bL:List bu} {Z:Type} {T:bn Z} {t e:TypeId}
theorem aj9{s:af}{r:List UInt8}{xs:List Int}{k:af→World→Prop}(i:Nat)(H:E A m w)(aw:front i m=row (B .u8) e 1 s xs::bL)(ao:xs.length+r.length≤140737488355328)
  (aq:∀ q J,E A (row (B .u8) e 1 q (xs++aS r)::bL) J→k q J):N1 e s r w k:=
 N2 (fun _=>rfl) (aw▸H.front i) (by rw[gq]; omega) aq
theorem akw{s:af}{r:List UInt8}{k:List UInt8→Prop}(h:k7 (B .u8) w s (aS r))(aq:k r):ex (tl s w) k:=⟨r,h,aq⟩
theorem sl{l qn:Int}{k:Int→Prop}(h:0≤l)(aq:k qn):ex (iL l qn) k:=⟨qn,⟨h,rfl⟩,aq⟩
theorem hU{bp:Type}{body:bp→World→(bp→World→Prop)→Prop}{s:bp}{w:World}(aV:bp→World→Prop)(tj:bp→Nat)(ah:aV s w)
  (h:∀ s w,aV s w→∀ aa:bp→World→Prop,(∀ fy J,aV fy J→tj fy<tj s→aa fy J)→body s w aa):eZ body s w:=
 vk aV tj ah fun s w a4=>h s w a4 _ fun fy J I O=>⟨I,O⟩
end
end bb
end Go.Proofs.YthaobmpdjcoheaaGreat
