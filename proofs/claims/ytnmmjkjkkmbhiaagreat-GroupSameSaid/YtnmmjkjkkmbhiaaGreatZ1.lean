/- Own texts of this claim, part 1: short, merged. -/
import Derived.Below
import Derived.ProofKit
import Derived.Deep.Slices
import Derived.Laws.AppendOwn
import Derived.Laws.BitsLemmas
import Derived.Test.YtnmmjkjkkmbhiaaGreatZ0
set_option maxRecDepth 100000
set_option maxHeartbeats 40000000
set_option linter.defProp false
set_option linter.unusedVariables false
set_option linter.unusedSimpArgs false
namespace Go.Proofs.YtnmmjkjkkmbhiaaGreat
namespace ba
abbrev aqy:=b1.mk ew
abbrev aqN:=b1.mk ea
abbrev aqT:=b1.mk sH
abbrev aqY:=b1.mk Dc
abbrev ard:=b1.mk pg
abbrev aqG:=b1.mk avg
abbrev aqJ:=b1.mk tz
abbrev aqK:=b1.mk wN
abbrev aqO:=b1.mk Mw
abbrev aqP:=b1.mk Mx
abbrev aqQ:=b1.mk avh
abbrev aqR:=b1.mk sG
abbrev aqS:=b1.mk My
abbrev aqU:=b1.mk avi
abbrev aqV:=b1.mk Wb
abbrev aqW:=b1.mk Wc
abbrev aqX:=b1.mk avj
abbrev aqZ:=b1.mk Ay
abbrev aq0:=b1.mk Wd
abbrev aq1:=b1.mk Az
abbrev aq2:=b1.mk avk
abbrev aq3:=b1.mk Mz
abbrev aq4:=b1.mk We
abbrev aq5:=b1.mk Wf
abbrev aq6:=b1.mk Wg
abbrev aq7:=b1.mk Wh
abbrev aq8:=b1.mk Wi
abbrev aq9:=b1.mk Gi
abbrev ara:=b1.mk avl
abbrev arb:=b1.mk sI
abbrev arc:=b1.mk Wj
abbrev are:=b1.mk Gj
abbrev arf:=b1.mk mv
abbrev arh:=b1.mk Wk
abbrev ari:=b1.mk Gk
abbrev arj:=b1.mk AA
abbrev ark:=b1.mk avm
abbrev aqe:=b1.mk Ms
abbrev aqf:=b1.mk au3
abbrev aqg:=b1.mk V4
abbrev aqh:=b1.mk au4
abbrev aqi:=b1.mk nf
abbrev aqj:=b1.mk ng
abbrev aqk:=b1.mk g9
abbrev aql:=b1.mk sF
abbrev aqm:=b1.mk au5
abbrev aqn:=b1.mk V5
abbrev aqo:=b1.mk Gh
abbrev aqp:=b1.mk au6
abbrev aqq:=b1.mk au7
abbrev aqr:=b1.mk au8
abbrev aqs:=b1.mk au9
abbrev aqt:=b1.mk Mt
abbrev aqu:=b1.mk ava
abbrev aqv:=b1.mk avb
abbrev aqw:=b1.mk V6
abbrev aqx:=b1.mk V7
abbrev aqz:=b1.mk avc
abbrev aqA:=b1.mk V8
abbrev aqB:=b1.mk avd
abbrev aqC:=b1.mk ave
abbrev aqD:=b1.mk Db
abbrev aqE:=b1.mk V9
abbrev aqF:=b1.mk avf
abbrev aqH:=b1.mk V_
abbrev aqI:=b1.mk Mu
abbrev aqL:=b1.mk Wa
abbrev aqM:=b1.mk Mv
abbrev apX:=eS.mk UF
abbrev ap4:=eS.mk CO
abbrev ap7:=eS.mk UO
abbrev aqd:=eS.mk US
abbrev ap2:=eS.mk Lx
abbrev ap5:=eS.mk Ag
abbrev ap6:=eS.mk UM
abbrev ap8:=eS.mk yl
abbrev ap9:=eS.mk UP
abbrev aqa:=eS.mk ym
abbrev aqb:=eS.mk UQ
abbrev aqc:=eS.mk UR
abbrev apP:=eS.mk rj
abbrev apQ:=eS.mk Ls
abbrev apR:=eS.mk FL
abbrev apS:=eS.mk Lt
abbrev apT:=eS.mk UA
abbrev apU:=eS.mk Lu
abbrev apV:=eS.mk Lv
abbrev apW:=eS.mk Lw
abbrev apY:=eS.mk UG
abbrev apZ:=eS.mk UH
abbrev ap0:=eS.mk Ae
abbrev ap1:=eS.mk CN
abbrev ap3:=eS.mk Af
abbrev anD:=bg Tryz.func5
abbrev anN:=bg Tryz.func6
abbrev anT:=bg Tryz.func7
abbrev an1:=bg Tryz.func8
abbrev an9:=bg Tryz.func9
abbrev alk:=bg Tryz.func10
abbrev als:=bg Tryz.func11
abbrev alD:=bg Tryz.func12
abbrev alL:=bg Tryz.func13
abbrev alU:=bg Tryz.func14
abbrev al2:=bg Tryz.func15
abbrev ama:=bg Tryz.func16
abbrev amc:=bg Tryz.func17
abbrev amm:=bg Tryz.func18
abbrev amv:=bg Tryz.func19
abbrev amz:=bg Tryz.func20
abbrev amK:=bg Tryz.func21
abbrev amU:=bg Tryz.func22
abbrev am4:=bg Tryz.func23
abbrev anb:=bg Tryz.func24
abbrev anc:=bg Tryz.func25
abbrev ane:=bg Tryz.func26
abbrev anf:=bg Tryz.func27
abbrev ang:=bg Tryz.func28
abbrev anh:=bg Tryz.func29
abbrev ani:=bg Tryz.func30
abbrev anj:=bg Tryz.func31
abbrev ank:=bg Tryz.func32
abbrev anl:=bg Tryz.func33
abbrev anm:=bg Tryz.func34
abbrev ann:=bg Tryz.func35
abbrev ano:=bg Tryz.func36
abbrev anp:=bg Tryz.func37
abbrev anq:=bg Tryz.func38
abbrev anr:=bg Tryz.func39
abbrev ans:=bg Tryz.func40
abbrev ant:=bg Tryz.func41
abbrev anu:=bg Tryz.func42
abbrev anv:=bg Tryz.func43
abbrev anw:=bg Tryz.func44
abbrev anx:=bg Tryz.func45
abbrev anz:=bg Tryz.func46
abbrev anA:=bg Tryz.func47
abbrev anB:=bg Tryz.func48
abbrev anC:=bg Tryz.func49
abbrev anE:=bg Tryz.func50
abbrev anF:=bg Tryz.func51
abbrev anG:=bg Tryz.func52
abbrev anH:=bg Tryz.func54
abbrev anI:=bg Tryz.func55
abbrev anJ:=bg Tryz.func56
abbrev anK:=bg Tryz.func57
abbrev anL:=bg Tryz.func58
abbrev anM:=bg Tryz.func59
abbrev anO:=bg Tryz.func60
abbrev anP:=bg Tryz.func61
abbrev anQ:=bg Tryz.func62
abbrev anR:=bg Tryz.func63
abbrev anS:=bg Tryz.func68
abbrev anU:=bg Tryz.func70
abbrev anV:=bg Tryz.func71
abbrev anW:=bg Tryz.func72
abbrev anX:=bg Tryz.func73
abbrev anY:=bg Tryz.func75
abbrev anZ:=bg Tryz.func77
abbrev an0:=bg Tryz.func79
abbrev an2:=bg Tryz.func81
abbrev an3:=bg Tryz.func82
abbrev an4:=bg Tryz.func84
abbrev an5:=bg Tryz.func86
abbrev an6:=bg Tryz.func87
abbrev an7:=bg Tryz.func88
abbrev an8:=bg Tryz.func89
abbrev aoa:=bg Tryz.func90
abbrev aob:=bg Tryz.func91
abbrev aoc:=bg Tryz.func92
abbrev aod:=bg Tryz.func94
abbrev aoe:=bg Tryz.func95
abbrev aof:=bg Tryz.func96
abbrev aog:=bg Tryz.func97
abbrev aoh:=bg Tryz.func98
abbrev aoi:=bg Tryz.func99
abbrev alm:=bg Tryz.func100
abbrev aln:=bg Tryz.func101
abbrev alo:=bg Tryz.func106
abbrev alp:=bg Tryz.func107
abbrev alq:=bg Tryz.func108
abbrev alr:=bg Tryz.func109
abbrev alt:=bg Tryz.func110
abbrev alu:=bg Tryz.func111
abbrev alv:=bg Tryz.func112
abbrev alw:=bg Tryz.func113
abbrev alx:=bg Tryz.func114
abbrev aly:=bg Tryz.func115
abbrev alz:=bg Tryz.func116
abbrev alA:=bg Tryz.func117
abbrev alB:=bg Tryz.func118
abbrev alC:=bg Tryz.func119
abbrev alE:=bg Tryz.func120
abbrev alF:=bg Tryz.func123
abbrev alG:=bg Tryz.func124
abbrev alH:=bg Tryz.func125
abbrev alI:=bg Tryz.func127
abbrev alJ:=bg Tryz.func128
abbrev alK:=bg Tryz.func129
abbrev alM:=bg Tryz.func130
abbrev alN:=bg Tryz.func131
abbrev alO:=bg Tryz.func132
abbrev alP:=bg Tryz.func133
abbrev alQ:=bg Tryz.func134
abbrev alR:=bg Tryz.func135
abbrev alS:=bg Tryz.func136
abbrev alT:=bg Tryz.func137
abbrev alV:=bg Tryz.func141
abbrev alW:=bg Tryz.func142
abbrev alX:=bg Tryz.func143
abbrev alY:=bg Tryz.func144
abbrev alZ:=bg Tryz.func146
abbrev al0:=bg Tryz.func147
abbrev al1:=bg Tryz.func149
abbrev al3:=bg Tryz.func151
abbrev al4:=bg Tryz.func153
abbrev al5:=bg Tryz.func154
abbrev al6:=bg Tryz.func156
abbrev al7:=bg Tryz.func157
abbrev al8:=bg Tryz.func158
abbrev al9:=bg Tryz.func159
abbrev amb:=bg Tryz.func160
abbrev amd:=bg Tryz.func171
abbrev ame:=bg Tryz.func172
abbrev amf:=bg Tryz.func173
abbrev amg:=bg Tryz.func174
abbrev amh:=bg Tryz.func175
abbrev ami:=bg Tryz.func176
abbrev amj:=bg Tryz.func177
abbrev amk:=bg Tryz.func178
abbrev aml:=bg Tryz.func179
abbrev amn:=bg Tryz.func180
abbrev amo:=bg Tryz.func182
abbrev amp:=bg Tryz.func183
abbrev amq:=bg Tryz.func184
abbrev amr:=bg Tryz.func185
abbrev ams:=bg Tryz.func186
abbrev amt:=bg Tryz.func187
abbrev amu:=bg Tryz.func188
abbrev amw:=bg Tryz.func197
abbrev amx:=bg Tryz.func198
abbrev amy:=bg Tryz.func199
abbrev amA:=bg Tryz.func200
abbrev amB:=bg Tryz.func201
abbrev amC:=bg Tryz.func202
abbrev amD:=bg Tryz.func203
abbrev amE:=bg Tryz.func204
abbrev amF:=bg Tryz.func205
abbrev amG:=bg Tryz.func206
abbrev amH:=bg Tryz.func207
abbrev amI:=bg Tryz.func208
abbrev amJ:=bg Tryz.func209
abbrev amL:=bg Tryz.func211
abbrev amM:=bg Tryz.func212
abbrev amN:=bg Tryz.func213
abbrev amO:=bg Tryz.func214
abbrev amP:=bg Tryz.func215
abbrev amQ:=bg Tryz.func216
abbrev amR:=bg Tryz.func217
abbrev amS:=bg Tryz.func218
abbrev amT:=bg Tryz.func219
abbrev amV:=bg Tryz.func220
abbrev amW:=bg Tryz.func221
abbrev amX:=bg Tryz.func222
abbrev amY:=bg Tryz.func223
abbrev amZ:=bg Tryz.func224
abbrev am0:=bg Tryz.func225
abbrev am1:=bg Tryz.func226
abbrev am2:=bg Tryz.func227
abbrev am3:=bg Tryz.func228
abbrev am5:=bg Tryz.func230
abbrev am6:=bg Tryz.func232
abbrev am7:=bg Tryz.func233
abbrev am8:=bg Tryz.func234
abbrev am9:=bg Tryz.func235
abbrev ana:=bg Tryz.func236
abbrev arI:=a1.mk Tryz.underlying2
abbrev arY:=a1.mk Tryz.underlying3
abbrev ar4:=a1.mk Tryz.underlying4
abbrev ar8:=a1.mk Tryz.underlying5
abbrev asn:=a1.mk Tryz.underlying9
abbrev arJ:=a1.mk Tryz.underlying20
abbrev arP:=a1.mk Tryz.underlying22
abbrev arS:=a1.mk Tryz.underlying24
abbrev arW:=a1.mk Tryz.underlying28
abbrev arZ:=a1.mk Tryz.underlying31
abbrev ar0:=a1.mk Tryz.underlying32
abbrev ar1:=a1.mk Tryz.underlying34
abbrev ar2:=a1.mk Tryz.underlying38
abbrev ar3:=a1.mk Tryz.underlying39
abbrev ar5:=a1.mk Tryz.underlying41
abbrev ar6:=a1.mk Tryz.underlying46
abbrev ar7:=a1.mk Tryz.underlying49
abbrev ar9:=a1.mk Tryz.underlying53
abbrev asa:=a1.mk Tryz.underlying54
abbrev asb:=a1.mk Tryz.underlying56
abbrev asc:=a1.mk Tryz.underlying58
abbrev asd:=a1.mk Tryz.underlying60
abbrev ase:=a1.mk Tryz.underlying61
abbrev asf:=a1.mk Tryz.underlying62
abbrev asg:=a1.mk Tryz.underlying63
abbrev ash:=a1.mk Tryz.underlying64
abbrev asi:=a1.mk Tryz.underlying66
abbrev asj:=a1.mk Tryz.underlying79
abbrev asl:=a1.mk Tryz.underlying83
abbrev asm:=a1.mk Tryz.underlying89
abbrev aso:=a1.mk Tryz.underlying94
abbrev asp:=a1.mk Tryz.underlying95
abbrev asq:=a1.mk Tryz.underlying96
abbrev asr:=a1.mk Tryz.underlying97
abbrev ass:=a1.mk Tryz.underlying99
abbrev arl:=a1.mk Tryz.underlying101
abbrev arm:=a1.mk Tryz.underlying107
abbrev arn:=a1.mk Tryz.underlying109
abbrev aro:=a1.mk Tryz.underlying110
abbrev arp:=a1.mk Tryz.underlying112
abbrev arq:=a1.mk Tryz.underlying130
abbrev ars:=a1.mk Tryz.underlying131
abbrev art:=a1.mk Tryz.underlying133
abbrev aru:=a1.mk Tryz.underlying134
abbrev arv:=a1.mk Tryz.underlying135
abbrev arw:=a1.mk Tryz.underlying140
abbrev arx:=a1.mk Tryz.underlying143
abbrev ary:=a1.mk Tryz.underlying145
abbrev arz:=a1.mk Tryz.underlying147
abbrev arA:=a1.mk Tryz.underlying164
abbrev arB:=a1.mk Tryz.underlying169
abbrev arC:=a1.mk Tryz.underlying171
abbrev arD:=a1.mk Tryz.underlying174
abbrev arE:=a1.mk Tryz.underlying177
abbrev arF:=a1.mk Tryz.underlying190
abbrev arG:=a1.mk Tryz.underlying192
abbrev arH:=a1.mk Tryz.underlying197
abbrev arK:=a1.mk Tryz.underlying203
abbrev arL:=a1.mk Tryz.underlying205
abbrev arM:=a1.mk Tryz.underlying208
abbrev arN:=a1.mk Tryz.underlying210
abbrev arO:=a1.mk Tryz.underlying214
abbrev arQ:=a1.mk Tryz.underlying236
abbrev arR:=a1.mk Tryz.underlying238
abbrev arT:=a1.mk Tryz.underlying245
abbrev arU:=a1.mk Tryz.underlying247
abbrev arV:=a1.mk Tryz.underlying262
abbrev arX:=a1.mk Tryz.underlying288
abbrev apa:=cR 0 0 Tryz.underlying34 Mw
abbrev apb:=cR 1 1001 Tryz.underlying34 Mx
abbrev apc:=cR 0 0 Tryz.underlying38 ea
abbrev apd:=cR 1 1 Tryz.underlying38 ew
abbrev ape:=cR 2 2 Tryz.underlying38 ea
abbrev apf:=cR 3 3 Tryz.underlying38 ea
abbrev apg:=cR 4 4 Tryz.underlying38 ew
abbrev aph:=cR 5 5 Tryz.underlying38 sH
abbrev api:=cR 0 0 Tryz.underlying41 ea
abbrev apj:=cR 1 1 Tryz.underlying41 ea
abbrev apk:=cR 2 2 Tryz.underlying41 ea
abbrev apl:=cR 3 3 Tryz.underlying41 sG
abbrev apm:=cR 4 9 Tryz.underlying41 My
abbrev apn:=cR 0 0 Tryz.underlying49 wN
abbrev apo:=cR 1 1 Tryz.underlying49 Wb
abbrev app:=cR 2 2 Tryz.underlying49 Wc
abbrev apq:=cR 0 0 Tryz.underlying53 ea
abbrev apr:=cR 1 1 Tryz.underlying53 ew
abbrev aps:=cR 2 2 Tryz.underlying53 pg
abbrev apt:=cR 0 0 Tryz.underlying56 ea
abbrev apu:=cR 1 1 Tryz.underlying56 ew
abbrev apv:=cR 2 2 Tryz.underlying56 Ay
abbrev apw:=cR 3 5 Tryz.underlying56 Wd
abbrev apx:=cR 0 0 Tryz.underlying66 Mz
abbrev apy:=cR 1 1 Tryz.underlying66 We
abbrev apA:=cR 2 2 Tryz.underlying66 Wf
abbrev apB:=cR 3 3 Tryz.underlying66 Wg
abbrev apC:=cR 4 4 Tryz.underlying66 Wh
abbrev apD:=cR 5 5 Tryz.underlying66 ea
abbrev apE:=cR 6 6 Tryz.underlying66 ew
abbrev apF:=cR 7 7 Tryz.underlying66 sH
abbrev apG:=cR 8 8 Tryz.underlying66 Wi
abbrev apH:=cR 9 9 Tryz.underlying66 Gi
abbrev apz:=cR 10 10 Tryz.underlying66 ea
abbrev apI:=cR 0 0 Tryz.underlying94 Gj
abbrev apJ:=cR 0 0 Tryz.underlying99 mv
abbrev apK:=cR 1 1 Tryz.underlying99 wN
abbrev apL:=cR 2 2 Tryz.underlying99 ew
abbrev apM:=cR 3 3 Tryz.underlying99 Wk
abbrev apN:=cR 4 4 Tryz.underlying99 Gk
abbrev apO:=cR 5 5 Tryz.underlying99 AA
abbrev aoj:=cR 0 0 Tryz.underlying109 ea
abbrev aok:=cR 1 1 Tryz.underlying109 ea
abbrev aol:=cR 2 2 Tryz.underlying109 Wj
abbrev aom:=cR 3 3 Tryz.underlying109 Ms
abbrev aon:=cR 0 0 Tryz.underlying112 V4
abbrev aoo:=cR 1 1 Tryz.underlying112 ea
abbrev aop:=cR 2 2 Tryz.underlying112 sH
abbrev aoq:=cR 3 3 Tryz.underlying112 ea
abbrev aor:=cR 4 4 Tryz.underlying112 My
abbrev aos:=cR 0 0 Tryz.underlying133 ng
abbrev aot:=cR 1 1 Tryz.underlying133 nf
abbrev aou:=cR 2 2 Tryz.underlying133 ew
abbrev aov:=cR 3 3 Tryz.underlying133 wN
abbrev aow:=cR 4 4 Tryz.underlying133 pg
abbrev aox:=cR 1 1 Tryz.underlying140 ea
abbrev aoy:=cR 2 2 Tryz.underlying140 ea
abbrev aoz:=cR 3 3 Tryz.underlying140 Az
abbrev aoA:=cR 0 0 Tryz.underlying145 V5
abbrev aoB:=cR 1 1 Tryz.underlying145 ew
abbrev aoC:=cR 2 2 Tryz.underlying145 Gh
abbrev aoD:=cR 0 0 Tryz.underlying147 ea
abbrev aoE:=cR 1 1 Tryz.underlying147 Az
abbrev aoF:=cR 0 0 Tryz.underlying164 pg
abbrev aoG:=cR 1 1 Tryz.underlying164 Ms
abbrev aoH:=cR 0 0 Tryz.underlying169 ea
abbrev aoI:=cR 1 1 Tryz.underlying169 ea
abbrev aoJ:=cR 2 2 Tryz.underlying169 ew
abbrev aoK:=cR 3 3 Tryz.underlying169 sH
abbrev aoL:=cR 0 0 Tryz.underlying171 Mt
abbrev aoM:=cR 1 4 Tryz.underlying171 ew
abbrev aoN:=cR 2 5 Tryz.underlying171 ew
abbrev aoO:=cR 0 0 Tryz.underlying174 ea
abbrev aoP:=cR 1 1 Tryz.underlying174 ew
abbrev aoQ:=cR 0 0 Tryz.underlying190 ea
abbrev aoR:=cR 1 1 Tryz.underlying190 ea
abbrev aoS:=cR 0 0 Tryz.underlying192 V6
abbrev aoT:=cR 1 2 Tryz.underlying192 Mz
abbrev aoU:=cR 2 3 Tryz.underlying192 ea
abbrev aoV:=cR 3 4 Tryz.underlying192 sH
abbrev aoW:=cR 0 0 Tryz.underlying203 sI
abbrev aoX:=cR 1 1 Tryz.underlying203 ea
abbrev aoY:=cR 0 0 Tryz.underlying208 V8
abbrev aoZ:=cR 1 1 Tryz.underlying208 ew
abbrev ao0:=cR 2 2 Tryz.underlying208 ew
abbrev ao1:=cR 0 0 Tryz.underlying210 ew
abbrev ao2:=cR 1 1 Tryz.underlying210 ew
abbrev ao3:=cR 0 0 Tryz.underlying238 V9
abbrev ao4:=cR 1 1 Tryz.underlying238 ew
abbrev ao5:=cR 0 0 Tryz.underlying245 sI
abbrev ao6:=cR 1 1 Tryz.underlying245 ea
abbrev ao7:=cR 0 0 Tryz.underlying247 tz
abbrev ao8:=cR 0 0 Tryz.underlying288 Wa
abbrev ao9:=cR 1 1 Tryz.underlying288 ew
attribute [instance] aqy aqN aqT aqY ard aqG aqJ aqK aqO aqP aqQ aqR aqS aqU aqV aqW aqX aqZ aq0 aq1 aq2 aq3 aq4 aq5 aq6 aq7 aq8 aq9 ara arb arc are arf arh ari arj ark aqe aqf aqg aqh aqi aqj aqk aql aqm aqn aqo aqp aqq aqr aqs aqt aqu aqv aqw aqx aqz aqA aqB aqC aqD aqE aqF aqH aqI aqL aqM apX ap4 ap7 aqd ap2 ap5 ap6 ap8 ap9 aqa aqb aqc apP apQ apR apS apT apU apV apW apY apZ ap0 ap1 ap3 anD anN anT an1 an9 alk als alD alL alU al2 ama amc amm amv amz amK amU am4 anb anc ane anf ang anh ani anj ank anl anm ann ano anp anq anr ans ant anu anv anw anx anz anA anB anC anE anF anG anH anI anJ anK anL anM anO anP anQ anR anS anU anV anW anX anY anZ an0 an2 an3 an4 an5 an6 an7 an8 aoa aob aoc aod aoe aof aog aoh aoi alm aln alo alp alq alr alt alu alv alw alx aly alz alA alB alC alE alF alG alH alI alJ alK alM alN alO alP alQ alR alS alT alV alW alX alY alZ al0 al1 al3 al4 al5 al6 al7 al8 al9 amb amd ame amf amg amh ami amj amk aml amn amo amp amq amr ams amt amu amw amx amy amA amB amC amD amE amF amG amH amI amJ amL amM amN amO amP amQ amR amS amT amV amW amX amY amZ am0 am1 am2 am3 am5 am6 am7 am8 am9 ana arI arY ar4 ar8 asn arJ arP arS arW arZ ar0 ar1 ar2 ar3 ar5 ar6 ar7 ar9 asa asb asc asd ase asf asg ash asi asj asl asm aso asp asq asr ass arl arm arn aro arp arq ars art aru arv arw arx ary arz arA arB arC arD arE arF arG arH arK arL arM arN arO arQ arR arT arU arV arX apa apb apc apd ape apf apg aph api apj apk apl apm apn apo app apq apr aps apt apu apv apw apx apy apA apB apC apD apE apF apG apH apz apI apJ apK apL apM apN apO aoj aok aol aom aon aoo aop aoq aor aos aot aou aov aow aox aoy aoz aoA aoB aoC aoD aoE aoF aoG aoH aoI aoJ aoK aoL aoM aoN aoO aoP aoQ aoR aoS aoT aoU aoV aoW aoX aoY aoZ ao0 ao1 ao2 ao3 ao4 ao5 ao6 ao7 ao8 ao9
theorem axc{p:Prop}(h:p:=by first | exact ey rfl rfl rfl | exact hW rfl rfl rfl | exact oe rfl rfl rfl | exact lx rfl rfl | exact Nb rfl rfl rfl | exact vu rfl rfl rfl | exact Di rfl rfl rfl | exact sO rfl rfl rfl | exact AH rfl rfl rfl | exact Nh rfl rfl rfl | exact nh rfl a1.out rfl rfl | exact Dk rfl a1.out rfl rfl | exact XB rfl rfl rfl | exact Nj rfl rfl rfl | exact Xy rfl a1.out rfl rfl | exact XN rfl a1.out rfl rfl | exact XG rfl (by decide) rfl rfl | exact GB rfl rfl rfl | exact GG rfl rfl rfl | exact Nq rfl rfl rfl | exact W2 rfl rfl rfl | exact Nk rfl rfl | exact XV rfl rfl rfl (by decide) | exact XW rfl rfl rfl (by decide) | exact XA rfl a1.out rfl rfl | exact XO rfl a1.out rfl rfl | exact Xz rfl a1.out rfl | exact Ni rfl a1.out rfl | exact XR rfl rfl rfl | exact XQ rfl rfl rfl | exact XP rfl rfl | exact Dh rfl (B5 _ _) rfl rfl | exact GF rfl (B5 _ _) rfl rfl | exact Dh rfl (Fk _ _) rfl rfl | exact GF rfl (Fk _ _) rfl rfl):p:=h
theorem aw2{p:Prop}(h:p:=by first | exact og rfl rfl | exact og rfl (Eq.trans rfl (congrArg Value.pointer (by assumption)))):p:=h
theorem aw3{p:Prop}(h:p:=by first | exact pM rfl rfl rfl | exact XD rfl rfl):p:=h
theorem aw4{p:Prop}(h:p:=by first | exact ee rfl rfl (ld.it (by assumption)) rfl | exact dY rfl rfl (ld.it (by assumption)) rfl | exact XT rfl rfl rfl rfl | exact XS rfl rfl rfl rfl | exact k7 rfl rfl rfl rfl | exact ky rfl rfl rfl rfl):p:=h
theorem axb{p:Prop}(h:p:=by first | exact h6 rfl a1.out rfl | exact Xu rfl a1.out rfl | exact Na rfl a1.out rfl | exact Ng rfl rfl rfl | exact XM rfl rfl rfl):p:=h
theorem aw5{p:Prop}(h:p:=by first | exact Xj rfl | exact Df rfl | exact Xl rfl rfl | exact Xm rfl rfl | exact Xq rfl | exact Xs rfl rfl | exact W4 rfl rfl | exact MZ rfl rfl | exact W5 rfl | exact W9 rfl | exact Xd rfl rfl | exact Xe rfl | exact Xg rfl | exact M4 rfl rfl | exact vt rfl rfl | exact Xh rfl rfl | exact M6 rfl rfl rfl | exact Xn rfl rfl rfl | exact M7 rfl rfl rfl | exact W3 rfl rfl rfl | exact M0 rfl rfl rfl | exact GD rfl rfl rfl | exact M1 rfl rfl rfl | exact W7 rfl rfl rfl | exact W8 rfl rfl rfl | exact W_ rfl rfl rfl | exact Xc rfl rfl rfl | exact M2 rfl rfl rfl | exact Xf rfl rfl rfl | exact Xi rfl rfl rfl | exact Dg rfl rfl rfl rfl | exact Xo rfl rfl rfl rfl | exact Xp rfl rfl rfl rfl | exact Xb rfl rfl rfl rfl | exact M3 rfl rfl rfl rfl | exact Xk rfl rfl rfl rfl rfl | exact Xr rfl rfl rfl rfl rfl | exact W6 rfl rfl rfl rfl rfl | exact Xa rfl rfl rfl rfl rfl | exact Xt rfl rfl rfl rfl rfl rfl | exact M5 rfl rfl rfl rfl rfl rfl rfl):p:=h
theorem aw7{p:Prop}(h:p:=by first | exact XH rfl a1.out rfl rfl a1.out rfl rfl rfl | exact XI rfl a1.out rfl rfl a1.out rfl rfl eS.out rfl):p:=h
theorem aw9{p:Prop}(h:p:=by first | exact M9 rfl rfl):p:=h
theorem aw1{p:Prop}(h:p:=by first | exact bZ rfl rfl | exact yI rfl rfl):p:=h
theorem aw6{p:Prop}(h:p:=by first | exact rs rfl a1.out a1.out rfl | exact q_cvtS rfl a1.out a1.out rfl):p:=h
theorem aw8{p:Prop}(h:p:=by first | exact Nd rfl rfl rfl | exact vv rfl a1.out rfl rfl):p:=h
theorem axa{p:Prop}(h:p:=by first | exact XE rfl S7 rfl | exact M8 rfl JG rfl):p:=h
theorem GJ{p:Prop}(h:p:=by first | exact gB 9 (.refl 9) axc | exact gB 1 (.refl 1) aw2 | exact gB 10 (.refl 10) aw3 | exact gB 11 (.refl 11) aw4 | exact gB 7 (.refl 7) axb | exact gB 12 (.refl 12) aw5 | exact gB 15 (.refl 15) aw7 | exact gB 2 (.refl 2) aw9 | exact gB 0 (.refl 0) aw1 | exact gB 14 (.refl 14) aw6 | exact gB 19 (.refl 19) aw8 | exact gB 5 (.refl 5) axa):p:=h
theorem axl{p:Prop}(h:p:=by first | exact Nl rfl rfl rfl F | exact Nm rfl rfl rfl F | exact GH rfl rfl rfl F | exact No rfl rfl rfl F | exact Xv rfl rfl rfl F | exact XF rfl rfl rfl rfl F):p:=h
theorem axd{p:Prop}(h:p:=by first | exact og rfl (Eq.trans rfl (congrArg Value.pointer F))):p:=h
theorem axk{p:Prop}(h:p:=by first | exact M_ rfl a1.out rfl F):p:=h
theorem axf{p:Prop}(h:p:=by first | exact jv rfl a1.out b1.out rfl rfl F | exact XJ rfl a1.out b1.out rfl rfl F | exact XK rfl a1.out rfl rfl F | exact XL rfl a1.out b1.out a1.out rfl (fun _=>rfl) rfl rfl F):p:=h
theorem axj{p:Prop}(h:p:=by first | exact jh rfl b1.out rfl F):p:=h
theorem axe{p:Prop}(h:p:=by first | exact GC rfl a1.out a1.out a1.out rfl F | exact Xw rfl a1.out a1.out rfl F):p:=h
theorem axg{p:Prop}(h:p:=by first | exact GI rfl a1.out b1.out rfl rfl rfl F | exact XZ rfl a1.out b1.out rfl rfl F | exact XY rfl a1.out b1.out rfl rfl F | exact XX rfl a1.out b1.out rfl F | exact X0 rfl a1.out b1.out rfl rfl rfl rfl F | exact Np rfl a1.out b1.out rfl rfl rfl F | exact X3 rfl a1.out rfl rfl rfl F | exact X2 rfl a1.out rfl rfl F | exact X1 rfl a1.out rfl rfl F):p:=h
theorem axh{p:Prop}(h:p:=by first | exact Dj rfl a1.out a1.out (by exact eS.out) rfl rfl F | exact Nc rfl a1.out a1.out (by exact eS.out) rfl rfl F):p:=h
theorem axi{p:Prop}(h:p:=by first | exact MY rfl ⟨_,a1.out,by rfl⟩ eS.out rfl F | exact Xx rfl rfl F):p:=h
theorem qI{p:Prop}(h:p:=by first | exact gB 9 (.refl 9) axl | exact gB 1 (.refl 1) axd | exact gB 7 (.refl 7) axk | exact gB 16 (.refl 16) axf | exact gB 3 (.refl 3) axj | exact gB 14 (.refl 14) axe | exact gB 17 (.refl 17) axg | exact gB 18 (.refl 18) axh | exact gB 19 (.refl 19) axi):p:=h
theorem aZ{p:Prop}(h:p:=by first | exact (c2 ae :) | exact (c2 (aea ae) :) | exact rfl):p:=h
theorem aw0{p:Prop}(h:p:=by first | exact ey rfl aZ aZ | exact hW rfl aZ aZ | exact oe rfl aZ aZ | exact lx rfl aZ | exact Nb rfl aZ aZ | exact vu rfl aZ aZ | exact Di rfl aZ aZ | exact sO rfl aZ aZ | exact AH rfl aZ aZ | exact Nh rfl aZ aZ | exact nh rfl a1.out aZ aZ | exact Dk rfl a1.out aZ aZ | exact XB rfl aZ aZ | exact Nj rfl aZ aZ | exact Xy rfl a1.out aZ aZ | exact XN rfl a1.out aZ aZ | exact XG rfl (by decide) aZ aZ | exact GB rfl aZ aZ | exact GG rfl aZ aZ | exact Nq rfl aZ aZ | exact W2 rfl aZ aZ | exact Nk rfl aZ | exact XV rfl aZ aZ (by decide) | exact XW rfl aZ aZ (by decide) | exact XA rfl a1.out aZ aZ | exact XO rfl a1.out aZ aZ | exact Xz rfl a1.out aZ | exact Ni rfl a1.out aZ | exact XR rfl rfl aZ | exact XQ rfl rfl aZ | exact XP rfl aZ | exact Dh rfl (B5 _ _) aZ aZ | exact GF rfl (B5 _ _) aZ aZ | exact Dh rfl (Fk _ _) aZ aZ | exact GF rfl (Fk _ _) aZ aZ):p:=h
theorem awQ{p:Prop}(h:p:=by first | exact og rfl aZ):p:=h
theorem awR{p:Prop}(h:p:=by first | exact pM rfl aZ rfl | exact XD rfl aZ):p:=h
theorem awS{p:Prop}(h:p:=by first | exact awO ae rfl rfl rfl rfl | exact XU ae rfl rfl rfl rfl | exact ee rfl aZ (ld.it (by assumption)) aZ | exact dY rfl aZ (ld.it (by assumption)) aZ | exact XT rfl aZ aZ aZ | exact XS rfl aZ aZ aZ | exact k7 rfl aZ aZ aZ | exact ky rfl aZ aZ aZ):p:=h
theorem awZ{p:Prop}(h:p:=by first | exact h6 rfl a1.out aZ | exact Xu rfl a1.out aZ | exact Na rfl a1.out aZ | exact Ng rfl aZ aZ | exact XM rfl aZ aZ):p:=h
theorem awT{p:Prop}(h:p:=by first | exact Xj rfl | exact Df rfl | exact Xl rfl aZ | exact Xm rfl aZ | exact Xq rfl | exact Xs rfl aZ | exact W4 rfl aZ | exact MZ rfl aZ | exact W5 rfl | exact W9 rfl | exact Xd rfl aZ | exact Xe rfl | exact Xg rfl | exact M4 rfl aZ | exact vt rfl aZ | exact Xh rfl aZ | exact M6 rfl aZ aZ | exact Xn rfl aZ aZ | exact M7 rfl aZ aZ | exact W3 rfl aZ aZ | exact M0 rfl aZ aZ | exact GD rfl aZ aZ | exact M1 rfl aZ aZ | exact W7 rfl aZ aZ | exact W8 rfl aZ aZ | exact W_ rfl aZ aZ | exact Xc rfl aZ aZ | exact M2 rfl aZ aZ | exact Xf rfl aZ aZ | exact Xi rfl aZ aZ | exact Dg rfl aZ aZ aZ | exact Xo rfl aZ aZ aZ | exact Xp rfl aZ aZ aZ | exact Xb rfl aZ aZ aZ | exact M3 rfl aZ aZ aZ | exact Xk rfl aZ aZ aZ aZ | exact Xr rfl aZ aZ aZ aZ | exact W6 rfl aZ aZ aZ aZ | exact Xa rfl aZ aZ aZ aZ | exact Xt rfl aZ aZ aZ aZ aZ | exact M5 rfl aZ aZ aZ aZ aZ aZ):p:=h
theorem awV{p:Prop}(h:p:=by first | exact XH rfl a1.out rfl rfl a1.out rfl aZ rfl | exact XI rfl a1.out rfl rfl a1.out rfl aZ eS.out rfl):p:=h
theorem awX{p:Prop}(h:p:=by first | exact M9 rfl aZ):p:=h
theorem awP{p:Prop}(h:p:=by first | exact bZ rfl aZ | exact yI rfl aZ):p:=h
theorem awU{p:Prop}(h:p:=by first | exact rs rfl a1.out a1.out aZ | exact q_cvtS rfl a1.out a1.out aZ):p:=h
theorem awW{p:Prop}(h:p:=by first | exact Nd rfl rfl rfl | exact vv rfl a1.out rfl aZ):p:=h
theorem awY{p:Prop}(h:p:=by first | exact XE rfl S7 aZ | exact M8 rfl JG aZ):p:=h
theorem h7{p:Prop}(h:p:=by first | exact gB 9 (.refl 9) aw0 | exact gB 1 (.refl 1) awQ | exact gB 10 (.refl 10) awR | exact gB 11 (.refl 11) awS | exact gB 7 (.refl 7) awZ | exact gB 12 (.refl 12) awT | exact gB 15 (.refl 15) awV | exact gB 2 (.refl 2) awX | exact gB 0 (.refl 0) awP | exact gB 14 (.refl 14) awU | exact gB 19 (.refl 19) awW | exact gB 5 (.refl 5) awY):p:=h
theorem axu{p:Prop}(h:p:=by first | exact Nl rfl aZ aZ F | exact Nm rfl aZ aZ F | exact GH rfl aZ aZ F | exact No rfl aZ aZ F | exact Xv rfl aZ aZ F | exact XF rfl rfl aZ aZ F):p:=h
theorem axm{p:Prop}(h:p:=by first | exact og rfl (Eq.trans aZ (congrArg Value.pointer F))):p:=h
theorem axt{p:Prop}(h:p:=by first | exact M_ rfl a1.out aZ F):p:=h
theorem axo{p:Prop}(h:p:=by first | exact jv rfl a1.out b1.out aZ aZ F | exact XJ rfl a1.out b1.out aZ aZ F | exact XK rfl a1.out aZ aZ F | exact XL rfl a1.out b1.out a1.out rfl (fun _=>rfl) aZ aZ F):p:=h
theorem axs{p:Prop}(h:p:=by first | exact jh rfl b1.out aZ F):p:=h
theorem axn{p:Prop}(h:p:=by first | exact GC rfl a1.out a1.out a1.out aZ F | exact Xw rfl a1.out a1.out aZ F):p:=h
theorem axp{p:Prop}(h:p:=by first | exact GI rfl a1.out b1.out aZ aZ aZ F | exact XZ rfl a1.out b1.out aZ aZ F | exact XY rfl a1.out b1.out aZ aZ F | exact XX rfl a1.out b1.out aZ F | exact X0 rfl a1.out b1.out aZ aZ aZ aZ F | exact Np rfl a1.out b1.out aZ aZ aZ F | exact X3 rfl a1.out aZ aZ aZ F | exact X2 rfl a1.out aZ aZ F | exact X1 rfl a1.out aZ aZ F):p:=h
theorem axq{p:Prop}(h:p:=by first | exact Dj rfl a1.out a1.out (by exact eS.out) aZ aZ F | exact Nc rfl a1.out a1.out (by exact eS.out) aZ aZ F):p:=h
theorem axr{p:Prop}(h:p:=by first | exact MY rfl ⟨_,a1.out,by rfl⟩ eS.out aZ F | exact Xx rfl aZ F):p:=h
theorem jw{p:Prop}(h:p:=by first | exact gB 9 (.refl 9) axu | exact gB 1 (.refl 1) axm | exact gB 7 (.refl 7) axt | exact gB 16 (.refl 16) axo | exact gB 3 (.refl 3) axs | exact gB 14 (.refl 14) axn | exact gB 17 (.refl 17) axp | exact gB 18 (.refl 18) axq | exact gB 19 (.refl 19) axr):p:=h
theorem kR{p:Prop}(h:p:=by repeat first | with_reducible exact rfl | refine aW ?_ rfl):p:=h
theorem ek{p:Prop}(h:p:=by first | exact .free rfl | exact .U _ _ _ _ rfl rfl rfl (ld.it (by assumption))):p:=h
theorem bf{p:Prop} (h:p:=by
 repeat' first
  |(refine asu ?_; first
   |(refine Lo 0 (.refl 0) ?_; first
    |refine ay7 rfl ?_
    |first
    |(refine nF 3 (.refl 3) ?_; refine agV rfl b1.out h rfl (fun x F h=>?_))
    |(refine nF 1 (.refl 1) ?_; refine agW rfl h rfl (fun x F h=>?_))
    |(refine nF 2 (.refl 2) ?_; refine aAi rfl rfl ?_)
    |(refine nF 5 (.refl 5) ?_; refine agU rfl EL.out h rfl (fun r w h=>?_))
    |(refine nF 4 (.refl 4) ?_; refine agX rfl b1.out h rfl rfl (fun w h=>?_))
    |(refine nF 13 (.refl 13) ?_; refine agT rfl b1.out eS.out h (fun x w h=>?_))
    |refine Y0 rfl rfl rfl GJ ?_
    |refine z0 h fun x F h=>Y0 rfl rfl rfl qI ?_
    |first
    |(refine nF 7 (.refl 7) ?_; first |refine e3 rfl ek (Hu rfl rfl a1.out ⟨_,a1.out⟩ b1.out eS.out rfl rfl (Nat.lt_of_lt_of_le Nat.zero_lt_one (Nat.le_of_ble_eq_true rfl)) rfl rfl h (fun r w h=>?_)) |refine e3 rfl ek (Oo rfl rfl a1.out a1.out b1.out eS.out rfl rfl h (fun r w h=>?_)) |refine e3 rfl ek (Oq rfl rfl a1.out b1.out eS.out rfl h (fun w h=>?_)) |refine e3 rfl ek (Ow rfl rfl a1.out rfl h (fun w h=>?_)) |refine e3 rfl ek (Ox rfl rfl a1.out a1.out rfl rfl h (fun w h=>?_)) |refine e3 rfl ek (Ov rfl rfl a1.out b1.out rfl rfl h (fun r w h=>?_)))
    |(refine nF 6 (.refl 6) ?_; first |refine e3 rfl ek (Ot rfl rfl rfl rfl h (fun r w h=>?_)) |refine e3 rfl ek (Ou rfl rfl rfl rfl h (fun r w h=>?_)))
    |(refine nF 14 (.refl 14) ?_; first |refine e3 rfl ek (OC rfl rfl a1.out a1.out a1.out rfl h (fun r w h=>?_)) |refine e3 rfl ek (Oz rfl rfl a1.out a1.out rfl h (fun w h=>?_)))
    |(refine nF 20 (.refl 20) ?_; first |refine e3 rfl ek (A5 rfl (.inl rfl) a1.out a1.out rfl rfl rfl h (fun w h=>?_)) |refine e3 rfl ek (A5 rfl (.inr rfl) a1.out a1.out rfl rfl rfl h (fun w h=>?_)) |refine e3 rfl ek (Oy rfl rfl a1.out b1.out eS.out rfl rfl h (fun r w h=>?_)) |refine e3 rfl ek (OB rfl rfl a1.out rfl h (fun r w h=>?_)) |refine e3 rfl ek (OA rfl rfl rfl h (fun r w h=>?_)) |(obtain⟨a,w,ag,hw,h⟩:=yA h; refine sR rfl ek rfl (wV rfl a1.out b1.out eS.out rfl (by decide) (by decide) rfl ag hw) ?_) |(obtain⟨a,w,ag,hw,h⟩:=ER h; refine sR rfl ek rfl (wV rfl a1.out b1.out eS.out rfl (by decide) (by decide) rfl ag hw) ?_) |(obtain⟨a,w,ag,hw,h⟩:=yA h; refine sR rfl ek rfl (Nn rfl a1.out b1.out eS.out ag hw) ?_) |(obtain⟨a,w,ag,hw,h⟩:=Mp h; refine sR rfl ek rfl (Nf rfl ag hw) ?_) |(obtain⟨a,w,ag,hw,h⟩:=rr h; refine sR rfl ek rfl (AG rfl b1.out rfl ag hw) ?_)))
   |refine ay6 rfl ?_
   |refine ay9 rfl rfl rfl rfl (by assumption) ?_
   |refine ay8 rfl rfl rfl rfl ?_
   |refine YZ rfl rfl rfl rfl (by assumption) rfl GJ ?_
   |refine z0 h fun x F h=>YZ rfl rfl rfl rfl (by assumption) rfl qI ?_
   |(have _:=@qw; first |(refine qw rfl ?_ (fun s g w h=>?_); refine nJ h (fun ag h=>?_) (fun ag h=>?_)) |(refine as7 rfl ?_ (fun s g w h=>?_); refine nJ h (fun ag h=>?_) (fun ag h=>?_)) |(refine as8 rfl ?_ (fun s g w h=>?_); refine nJ h (fun ag h=>?_) (fun ag h=>?_)) |(refine as9 rfl ?_ (fun s g w h=>?_); refine nJ h (fun ag h=>?_) (fun ag h=>?_)) |(refine ata rfl ?_ (fun s g w h=>?_); refine nJ h (fun ag h=>?_) (fun ag h=>?_)) |(refine atb rfl ?_ (fun s g w h=>?_); refine nJ h (fun ag h=>?_) (fun ag h=>?_)) |(refine atc rfl ?_ (fun s g w h=>?_); refine nJ h (fun ag h=>?_) (fun ag h=>?_)) |(refine atd rfl ?_ (fun s g w h=>?_); refine nJ h (fun ag h=>?_) (fun ag h=>?_)))
   |refine axv rfl rfl rfl rfl h (fun ag h=>?_) (fun ag h=>?_)
   |(refine Lo 1 (.refl 1) ?_; first
    |refine w6 rfl (uF rfl rfl rfl) rfl (fun ae=>h7) ?_
    |refine z0 h fun x F h=>w6 rfl (uF rfl rfl rfl) rfl (fun ae=>have F:=F ae; jw) ?_
    |refine w6 rfl (uG rfl rfl rfl) rfl (fun ae=>h7) ?_
    |refine z0 h fun x F h=>w6 rfl (uG rfl rfl rfl) rfl (fun ae=>have F:=F ae; jw) ?_)
   |(refine Lo 2 (.refl 2) ?_; first
    |refine w6 rfl (uE rfl rfl rfl) rfl (fun ae=>h7) ?_
    |refine z0 h fun x F h=>w6 rfl (uE rfl rfl rfl) rfl (fun ae=>have F:=F ae; jw) ?_
    |refine w6 rfl (uD rfl rfl rfl) rfl (fun ae=>h7) ?_
    |refine z0 h fun x F h=>w6 rfl (uD rfl rfl rfl) rfl (fun ae=>have F:=F ae; jw) ?_)
   |first
    |(refine nF 5 (.refl 5) ?_; refine e3 rfl ek (dj rfl (c3 rfl EL.out rfl) h (fun r w h=>?_)))
    |(refine nF 4 (.refl 4) ?_; (obtain⟨w,hw,Z,h⟩:=qM h; refine Ys (d:=none) rfl ek rfl (qH rfl b1.out rfl rfl Z hw) ?_))
    |(refine nF 13 (.refl 13) ?_; (obtain⟨a,w,ag,hw,h⟩:=rr h; refine sR rfl ek rfl (AF rfl b1.out (by exact eS.out) ag hw) ?_))
    |(refine nF 7 (.refl 7) ?_; first |refine e3 rfl ek (Hu rfl rfl a1.out ⟨_,a1.out⟩ b1.out eS.out rfl rfl (Nat.lt_of_lt_of_le Nat.zero_lt_one (Nat.le_of_ble_eq_true rfl)) rfl rfl h (fun r w h=>?_)) |refine e3 rfl ek (Oo rfl rfl a1.out a1.out b1.out eS.out rfl rfl h (fun r w h=>?_)) |refine e3 rfl ek (Oq rfl rfl a1.out b1.out eS.out rfl h (fun w h=>?_)) |refine e3 rfl ek (Ow rfl rfl a1.out rfl h (fun w h=>?_)) |refine e3 rfl ek (Ox rfl rfl a1.out a1.out rfl rfl h (fun w h=>?_)) |refine e3 rfl ek (Ov rfl rfl a1.out b1.out rfl rfl h (fun r w h=>?_)))
    |(refine nF 6 (.refl 6) ?_; first |refine e3 rfl ek (Ot rfl rfl rfl rfl h (fun r w h=>?_)) |refine e3 rfl ek (Ou rfl rfl rfl rfl h (fun r w h=>?_)))
    |(refine nF 14 (.refl 14) ?_; first |refine e3 rfl ek (OC rfl rfl a1.out a1.out a1.out rfl h (fun r w h=>?_)) |refine e3 rfl ek (Oz rfl rfl a1.out a1.out rfl h (fun w h=>?_)))
    |(refine nF 20 (.refl 20) ?_; first |refine e3 rfl ek (A5 rfl (.inl rfl) a1.out a1.out rfl rfl rfl h (fun w h=>?_)) |refine e3 rfl ek (A5 rfl (.inr rfl) a1.out a1.out rfl rfl rfl h (fun w h=>?_)) |refine e3 rfl ek (Oy rfl rfl a1.out b1.out eS.out rfl rfl h (fun r w h=>?_)) |refine e3 rfl ek (OB rfl rfl a1.out rfl h (fun r w h=>?_)) |refine e3 rfl ek (OA rfl rfl rfl h (fun r w h=>?_)) |(obtain⟨a,w,ag,hw,h⟩:=yA h; refine sR rfl ek rfl (wV rfl a1.out b1.out eS.out rfl (by decide) (by decide) rfl ag hw) ?_) |(obtain⟨a,w,ag,hw,h⟩:=ER h; refine sR rfl ek rfl (wV rfl a1.out b1.out eS.out rfl (by decide) (by decide) rfl ag hw) ?_) |(obtain⟨a,w,ag,hw,h⟩:=yA h; refine sR rfl ek rfl (Nn rfl a1.out b1.out eS.out ag hw) ?_) |(obtain⟨a,w,ag,hw,h⟩:=Mp h; refine sR rfl ek rfl (Nf rfl ag hw) ?_) |(obtain⟨a,w,ag,hw,h⟩:=rr h; refine sR rfl ek rfl (AG rfl b1.out rfl ag hw) ?_))
   |(have _:=@qw; first |(refine qw rfl ?_ (fun s g w h=>?_); refine nJ h (fun ag h=>?_) (fun ag h=>?_)) |(refine as7 rfl ?_ (fun s g w h=>?_); refine nJ h (fun ag h=>?_) (fun ag h=>?_)) |(refine as8 rfl ?_ (fun s g w h=>?_); refine nJ h (fun ag h=>?_) (fun ag h=>?_)) |(refine as9 rfl ?_ (fun s g w h=>?_); refine nJ h (fun ag h=>?_) (fun ag h=>?_)) |(refine ata rfl ?_ (fun s g w h=>?_); refine nJ h (fun ag h=>?_) (fun ag h=>?_)) |(refine atb rfl ?_ (fun s g w h=>?_); refine nJ h (fun ag h=>?_) (fun ag h=>?_)) |(refine atc rfl ?_ (fun s g w h=>?_); refine nJ h (fun ag h=>?_) (fun ag h=>?_)) |(refine atd rfl ?_ (fun s g w h=>?_); refine nJ h (fun ag h=>?_) (fun ag h=>?_)))
   |refine nJ h (fun ag h=>?_) (fun ag h=>?_)
   |exact auI (by assumption) |exact auJ (by assumption))
  |(refine alh ?_; first
   |refine aeK rfl rfl ?_
   |(have _:=@gH; first |refine gH rfl rfl h mixed rfl (by kernel_rfl) (by intro o a d v w h; cases d<;>exact h) (fun w h G=>?_) |refine r3 rfl rfl h mixed rfl (by kernel_rfl) (by intro o a d v w h; cases d<;>exact h) (fun w h G=>?_) |refine Jt rfl rfl h mixed rfl (by kernel_rfl) (by intro o a d v w h; cases d<;>exact h) (fun w h G=>?_) |refine afx rfl rfl h mixed rfl (by kernel_rfl) (by intro o a d v w h; cases d<;>exact h) (fun w h G=>?_) |refine afy rfl rfl h mixed rfl (by kernel_rfl) (by intro o a d v w h; cases d<;>exact h) (fun w h G=>?_) |refine afz rfl rfl h mixed rfl (by kernel_rfl) (by intro o a d v w h; cases d<;>exact h) (fun w h G=>?_) |refine aAN rfl rfl h mixed rfl (by kernel_rfl) (by intro o a d v w h; cases d<;>exact h) (fun w h G=>?_) |refine aAO rfl rfl h mixed rfl (by kernel_rfl) (by intro o a d v w h; cases d<;>exact h) (fun w h G=>?_) |refine aAP rfl rfl h mixed rfl (by kernel_rfl) (by intro o a d v w h; cases d<;>exact h) (fun w h G=>?_) |refine aAC rfl rfl h mixed rfl (by kernel_rfl) (by intro o a d v w h; cases d<;>exact h) (fun w h G=>?_) |refine aAD rfl rfl h mixed rfl (by kernel_rfl) (by intro o a d v w h; cases d<;>exact h) (fun w h G=>?_) |refine aAE rfl rfl h mixed rfl (by kernel_rfl) (by intro o a d v w h; cases d<;>exact h) (fun w h G=>?_) |refine aAF rfl rfl h mixed rfl (by kernel_rfl) (by intro o a d v w h; cases d<;>exact h) (fun w h G=>?_) |refine aAG rfl rfl h mixed rfl (by kernel_rfl) (by intro o a d v w h; cases d<;>exact h) (fun w h G=>?_) |refine aAH rfl rfl h mixed rfl (by kernel_rfl) (by intro o a d v w h; cases d<;>exact h) (fun w h G=>?_) |refine aAI rfl rfl h mixed rfl (by kernel_rfl) (by intro o a d v w h; cases d<;>exact h) (fun w h G=>?_) |refine aAJ rfl rfl h mixed rfl (by kernel_rfl) (by intro o a d v w h; cases d<;>exact h) (fun w h G=>?_) |refine aAK rfl rfl h mixed rfl (by kernel_rfl) (by intro o a d v w h; cases d<;>exact h) (fun w h G=>?_) |refine aAL rfl rfl h mixed rfl (by kernel_rfl) (by intro o a d v w h; cases d<;>exact h) (fun w h G=>?_) |refine aAM rfl rfl h mixed rfl (by kernel_rfl) (by intro o a d v w h; cases d<;>exact h) (fun w h G=>?_))
   |refine aeF rfl h rfl (fun aA h=>?_) (fun aA h=>?_)
   |(have _:=@kJ; first |refine kJ rfl rfl ?_ (fun s g w h=>?_) |refine U2 rfl rfl ?_ (fun s g w h=>?_) |refine aBp rfl rfl ?_ (fun s g w h=>?_) |refine aBq rfl rfl ?_ (fun s g w h=>?_) |refine aBr rfl rfl ?_ (fun s g w h=>?_) |refine aBs rfl rfl ?_ (fun s g w h=>?_) |refine aBt rfl rfl ?_ (fun s g w h=>?_) |refine aBu rfl rfl ?_ (fun s g w h=>?_) |refine aBv rfl rfl ?_ (fun s g w h=>?_) |refine aBa rfl rfl ?_ (fun s g w h=>?_) |refine aBb rfl rfl ?_ (fun s g w h=>?_) |refine aBc rfl rfl ?_ (fun s g w h=>?_) |refine aBd rfl rfl ?_ (fun s g w h=>?_) |refine aBe rfl rfl ?_ (fun s g w h=>?_) |refine aBf rfl rfl ?_ (fun s g w h=>?_) |refine aBg rfl rfl ?_ (fun s g w h=>?_) |refine aBh rfl rfl ?_ (fun s g w h=>?_) |refine aBi rfl rfl ?_ (fun s g w h=>?_) |refine aBj rfl rfl ?_ (fun s g w h=>?_) |refine aBk rfl rfl ?_ (fun s g w h=>?_) |refine aBl rfl rfl ?_ (fun s g w h=>?_) |refine aBm rfl rfl ?_ (fun s g w h=>?_) |refine aBn rfl rfl ?_ (fun s g w h=>?_) |refine aBo rfl rfl ?_ (fun s g w h=>?_))
   |refine mg rfl ?_
   |(refine BS rfl ?_; first |exact lc h rfl rfl |exact rM h rfl rfl |exact Er h rfl rfl |exact axM h rfl rfl |exact axL h rfl)
   |refine rX rfl ?_
   |refine aeE rfl ?_
   |refine aeI rfl rfl ?_
   |refine q4 rfl rfl ?_
   |refine aeG rfl ?_
   |refine aeH rfl ?_
   |refine aeJ rfl ?_
   |(have _:=@hT; first |refine hT rfl rfl h kR (fun s g w aa h=>?_) |refine C0 rfl rfl h kR (fun s g w aa h=>?_) |refine VG rfl rfl h kR (fun s g w aa h=>?_) |refine aud rfl rfl h kR (fun s g w aa h=>?_) |refine aBE rfl rfl h kR (fun s g w aa h=>?_) |refine aBF rfl rfl h kR (fun s g w aa h=>?_) |refine aBG rfl rfl h kR (fun s g w aa h=>?_) |refine aBH rfl rfl h kR (fun s g w aa h=>?_) |refine aBI rfl rfl h kR (fun s g w aa h=>?_) |refine aBx rfl rfl h kR (fun s g w aa h=>?_) |refine aBy rfl rfl h kR (fun s g w aa h=>?_) |refine aBz rfl rfl h kR (fun s g w aa h=>?_) |refine aBA rfl rfl h kR (fun s g w aa h=>?_) |refine aBB rfl rfl h kR (fun s g w aa h=>?_) |refine aBC rfl rfl h kR (fun s g w aa h=>?_) |refine aBD rfl rfl h kR (fun s g w aa h=>?_))
   |(refine BS rfl ?_; refine zX h fun x F h=>?_; exact ph rfl (.cons (.cell b1.out rfl F) .nil) ⟨_,rfl,h⟩)
   |(refine BS rfl ?_; refine zX h fun x F h=>zX h fun N aJ h=>?_; exact ph rfl (.cons (.cell b1.out rfl F) (.cons (.cell b1.out rfl aJ) .nil)) ⟨(_,_),rfl,h⟩)
   |(refine BS rfl ?_; refine zX h fun x F h=>?_; exact ph rfl (.cons (.cell b1.out rfl F) (.cons (.tmp rfl) .nil)) ⟨(_,_),rfl,h⟩)
   |(refine BS rfl ?_; refine zX h fun x F h=>?_; exact ph rfl (.cons (.tmp rfl) (.cons (.cell b1.out rfl F) .nil)) ⟨(_,_),rfl,h⟩))
  |(refine ali ?_; first
   |(refine LA 0 rfl (.refl 0) ?_; first
    |(refine as4 3 (.refl 3) ?_; refine aAb rfl rfl h G rfl (by kernel_rfl) (by kernel_rfl) (fun x F h=>?_))
    |refine fe h fun x F h=>Z0 rfl rfl rfl rfl G (fun _=>qI) ?_ (by kernel_rfl) (by kernel_rfl)
    |refine Z0 rfl rfl rfl rfl G (fun _=>GJ) ?_ (by kernel_rfl) (by kernel_rfl)
    |refine fe h fun x F h=>HD (ad:=fun w=>fO _ _ _ _ w _) F rfl rfl rfl rfl G (fun _ F=>qI) ?_ (by kernel_rfl) (by kernel_rfl)
    |refine fe h fun x F h=>HD (ad:=fun w=>nu _ w _) F rfl rfl rfl rfl G (fun _ F=>qI) ?_ (by kernel_rfl) (by kernel_rfl)
    |refine fe h fun x F h=>HD (ad:=fun w=>mJ _ _ _ w _) F rfl rfl rfl rfl G (fun _ F=>qI) ?_ (by kernel_rfl) (by kernel_rfl)
    |refine fe h fun x F h=>HD (ad:=fun w=>gi _ w _) F rfl rfl rfl rfl G (fun _ F=>qI) ?_ (by kernel_rfl) (by kernel_rfl))
   |refine az8 rfl ?_ (by kernel_rfl)
   |refine aAe rfl rfl rfl rfl rfl (by assumption) G ?_ (by kernel_rfl) (by kernel_rfl)
   |refine aAd rfl rfl rfl rfl rfl G ?_ (by kernel_rfl) (by kernel_rfl)
   |refine Z1 rfl rfl rfl rfl rfl (by assumption) rfl G (fun _=>GJ) ?_ (by kernel_rfl) (by kernel_rfl)
   |refine fe h fun x F h=>Z1 rfl rfl rfl rfl rfl (by assumption) rfl G (fun _=>qI) ?_ (by kernel_rfl) (by kernel_rfl)
    |refine fe h fun x F h=>El (ad:=fun w=>M _ _ w _) F rfl rfl rfl rfl rfl (by assumption) rfl G (fun _ F=>qI) ?_ (by kernel_rfl) (by kernel_rfl)
    |refine fe h fun x F h=>El (ad:=fun w=>fO _ _ _ _ w _) F rfl rfl rfl rfl rfl (by assumption) rfl G (fun _ F=>qI) ?_ (by kernel_rfl) (by kernel_rfl)
    |refine fe h fun x F h=>El (ad:=fun w=>nu _ w _) F rfl rfl rfl rfl rfl (by assumption) rfl G (fun _ F=>qI) ?_ (by kernel_rfl) (by kernel_rfl)
    |refine fe h fun x F h=>El (ad:=fun w=>mJ _ _ _ w _) F rfl rfl rfl rfl rfl (by assumption) rfl G (fun _ F=>qI) ?_ (by kernel_rfl) (by kernel_rfl)
    |refine fe h fun x F h=>El (ad:=fun w=>gi _ w _) F rfl rfl rfl rfl rfl (by assumption) rfl G (fun _ F=>qI) ?_ (by kernel_rfl) (by kernel_rfl)
   |refine aAa rfl rfl rfl rfl rfl h (fun ag h=>?_) (fun ag h=>?_)
   |(refine LA 1 rfl (.refl 1) ?_; first
    |refine xd rfl rfl (uF rfl rfl rfl) rfl G (fun ae _=>h7) ?_ (by kernel_rfl) (by kernel_rfl)
    |refine fe h fun x F h=>xd rfl rfl (uF rfl rfl rfl) rfl G (fun ae _=>have F:=F ae; jw) ?_ (by kernel_rfl) (by kernel_rfl)
    |refine fe h fun x F h=>l_ (ad:=fun w=>M _ _ w _) F rfl rfl (uF rfl rfl rfl) rfl G (fun ae _ F=>jw) ?_ (by kernel_rfl) (by kernel_rfl)
    |refine fe h fun x F h=>l_ (ad:=fun w=>fO _ _ _ _ w _) F rfl rfl (uF rfl rfl rfl) rfl G (fun ae _ F=>jw) ?_ (by kernel_rfl) (by kernel_rfl)
    |refine fe h fun x F h=>l_ (ad:=fun w=>nu _ w _) F rfl rfl (uF rfl rfl rfl) rfl G (fun ae _ F=>jw) ?_ (by kernel_rfl) (by kernel_rfl)
    |refine fe h fun x F h=>l_ (ad:=fun w=>mJ _ _ _ w _) F rfl rfl (uF rfl rfl rfl) rfl G (fun ae _ F=>jw) ?_ (by kernel_rfl) (by kernel_rfl)
    |refine fe h fun x F h=>l_ (ad:=fun w=>gi _ w _) F rfl rfl (uF rfl rfl rfl) rfl G (fun ae _ F=>jw) ?_ (by kernel_rfl) (by kernel_rfl)
    |refine xd rfl rfl (uG rfl rfl rfl) rfl G (fun ae _=>h7) ?_ (by kernel_rfl) (by kernel_rfl)
    |refine fe h fun x F h=>xd rfl rfl (uG rfl rfl rfl) rfl G (fun ae _=>have F:=F ae; jw) ?_ (by kernel_rfl) (by kernel_rfl)
    |refine fe h fun x F h=>l_ (ad:=fun w=>M _ _ w _) F rfl rfl (uG rfl rfl rfl) rfl G (fun ae _ F=>jw) ?_ (by kernel_rfl) (by kernel_rfl)
    |refine fe h fun x F h=>l_ (ad:=fun w=>fO _ _ _ _ w _) F rfl rfl (uG rfl rfl rfl) rfl G (fun ae _ F=>jw) ?_ (by kernel_rfl) (by kernel_rfl)
    |refine fe h fun x F h=>l_ (ad:=fun w=>nu _ w _) F rfl rfl (uG rfl rfl rfl) rfl G (fun ae _ F=>jw) ?_ (by kernel_rfl) (by kernel_rfl)
    |refine fe h fun x F h=>l_ (ad:=fun w=>mJ _ _ _ w _) F rfl rfl (uG rfl rfl rfl) rfl G (fun ae _ F=>jw) ?_ (by kernel_rfl) (by kernel_rfl)
    |refine fe h fun x F h=>l_ (ad:=fun w=>gi _ w _) F rfl rfl (uG rfl rfl rfl) rfl G (fun ae _ F=>jw) ?_ (by kernel_rfl) (by kernel_rfl))
   |(refine LA 2 rfl (.refl 2) ?_; first
    |refine xd rfl rfl (uE rfl rfl rfl) rfl G (fun ae _=>h7) ?_ (by kernel_rfl) (by kernel_rfl)
    |refine fe h fun x F h=>xd rfl rfl (uE rfl rfl rfl) rfl G (fun ae _=>have F:=F ae; jw) ?_ (by kernel_rfl) (by kernel_rfl)
    |refine fe h fun x F h=>l_ (ad:=fun w=>M _ _ w _) F rfl rfl (uE rfl rfl rfl) rfl G (fun ae _ F=>jw) ?_ (by kernel_rfl) (by kernel_rfl)
    |refine fe h fun x F h=>l_ (ad:=fun w=>fO _ _ _ _ w _) F rfl rfl (uE rfl rfl rfl) rfl G (fun ae _ F=>jw) ?_ (by kernel_rfl) (by kernel_rfl)
    |refine fe h fun x F h=>l_ (ad:=fun w=>nu _ w _) F rfl rfl (uE rfl rfl rfl) rfl G (fun ae _ F=>jw) ?_ (by kernel_rfl) (by kernel_rfl)
    |refine fe h fun x F h=>l_ (ad:=fun w=>mJ _ _ _ w _) F rfl rfl (uE rfl rfl rfl) rfl G (fun ae _ F=>jw) ?_ (by kernel_rfl) (by kernel_rfl)
    |refine fe h fun x F h=>l_ (ad:=fun w=>gi _ w _) F rfl rfl (uE rfl rfl rfl) rfl G (fun ae _ F=>jw) ?_ (by kernel_rfl) (by kernel_rfl)
    |refine xd rfl rfl (uD rfl rfl rfl) rfl G (fun ae _=>h7) ?_ (by kernel_rfl) (by kernel_rfl)
    |refine fe h fun x F h=>xd rfl rfl (uD rfl rfl rfl) rfl G (fun ae _=>have F:=F ae; jw) ?_ (by kernel_rfl) (by kernel_rfl)
    |refine fe h fun x F h=>l_ (ad:=fun w=>M _ _ w _) F rfl rfl (uD rfl rfl rfl) rfl G (fun ae _ F=>jw) ?_ (by kernel_rfl) (by kernel_rfl)
    |refine fe h fun x F h=>l_ (ad:=fun w=>fO _ _ _ _ w _) F rfl rfl (uD rfl rfl rfl) rfl G (fun ae _ F=>jw) ?_ (by kernel_rfl) (by kernel_rfl)
    |refine fe h fun x F h=>l_ (ad:=fun w=>nu _ w _) F rfl rfl (uD rfl rfl rfl) rfl G (fun ae _ F=>jw) ?_ (by kernel_rfl) (by kernel_rfl)
    |refine fe h fun x F h=>l_ (ad:=fun w=>mJ _ _ _ w _) F rfl rfl (uD rfl rfl rfl) rfl G (fun ae _ F=>jw) ?_ (by kernel_rfl) (by kernel_rfl)
    |refine fe h fun x F h=>l_ (ad:=fun w=>gi _ w _) F rfl rfl (uD rfl rfl rfl) rfl G (fun ae _ F=>jw) ?_ (by kernel_rfl) (by kernel_rfl))
   |refine aAc rfl ?_ (by kernel_rfl)
   |refine az6 rfl h (fun h=>?_) (fun h=>?_) (by kernel_rfl)
   |refine az7 rfl h (fun h=>?_) (fun h=>?_) (fun h=>?_) (by kernel_rfl)
   |refine az9 h (fun ag h=>?_) (fun ag h=>?_))
  |(refine alj ?_; first
   |with_reducible refine ate h (fun al h=>?_)
   |refine atf ?_
   |refine yo (fun h=>vf (by assumption) h) ?_
   |refine yo (fun h ae=>vf (by assumption) (h ae)) ?_
   |refine yo (fun h=>U7 (by assumption) h) ?_
   |refine yo (fun h=>atk (by assumption) h) ?_
   |refine yo (fun h=>atj (by assumption) h) ?_
   |refine yo (fun h=>ati (by assumption) h) ?_
   |refine yo (fun _=>by assumption) ?_
   |refine atg ?_ (by kernel_rfl))
  |(refine ast ?_; first
   |refine dE rfl (.U _ _ _ _ rfl rfl rfl (ld.it (by assumption))) rfl ?_
   |refine dE rfl (.undef _ _ _ rfl rfl rfl) rfl ?_
   |first
    |(refine yF 5 (.refl 5) ?_; refine cY rfl ek (dj rfl (c3 rfl EL.out rfl) h (fun r w h=>?_)))
    |(refine yF 4 (.refl 4) ?_; (obtain⟨w,hw,Z,h⟩:=qM h; refine sL (d:=none) rfl ek rfl (qH rfl b1.out rfl rfl Z hw) ?_))
    |(refine yF 13 (.refl 13) ?_; (obtain⟨a,w,ag,hw,h⟩:=rr h; refine tD (d:=some _) rfl ek rfl (AF rfl b1.out (by exact eS.out) ag hw) ?_))
    |(refine yF 7 (.refl 7) ?_; first |refine cY rfl ek (Hu rfl rfl a1.out ⟨_,a1.out⟩ b1.out eS.out rfl rfl (Nat.lt_of_lt_of_le Nat.zero_lt_one (Nat.le_of_ble_eq_true rfl)) rfl rfl h (fun r w h=>?_)) |refine cY rfl ek (Oo rfl rfl a1.out a1.out b1.out eS.out rfl rfl h (fun r w h=>?_)) |refine cY rfl ek (Oq rfl rfl a1.out b1.out eS.out rfl h (fun w h=>?_)) |refine cY rfl ek (Ow rfl rfl a1.out rfl h (fun w h=>?_)) |refine cY rfl ek (Ox rfl rfl a1.out a1.out rfl rfl h (fun w h=>?_)) |refine cY rfl ek (Ov rfl rfl a1.out b1.out rfl rfl h (fun r w h=>?_)))
    |(refine yF 6 (.refl 6) ?_; first |refine cY rfl ek (Ot rfl rfl rfl rfl h (fun r w h=>?_)) |refine cY rfl ek (Ou rfl rfl rfl rfl h (fun r w h=>?_)))
    |(refine yF 14 (.refl 14) ?_; first |refine cY rfl ek (OC rfl rfl a1.out a1.out a1.out rfl h (fun r w h=>?_)) |refine cY rfl ek (Oz rfl rfl a1.out a1.out rfl h (fun w h=>?_)))
    |(refine yF 20 (.refl 20) ?_; first |refine cY rfl ek (A5 rfl (.inl rfl) a1.out a1.out rfl rfl rfl h (fun w h=>?_)) |refine cY rfl ek (A5 rfl (.inr rfl) a1.out a1.out rfl rfl rfl h (fun w h=>?_)) |refine cY rfl ek (Oy rfl rfl a1.out b1.out eS.out rfl rfl h (fun r w h=>?_)) |refine cY rfl ek (OB rfl rfl a1.out rfl h (fun r w h=>?_)) |refine cY rfl ek (OA rfl rfl rfl h (fun r w h=>?_)) |(obtain⟨a,w,ag,hw,h⟩:=yA h; refine tD (d:=some _) rfl ek rfl (wV rfl a1.out b1.out eS.out rfl (by decide) (by decide) rfl ag hw) ?_) |(obtain⟨a,w,ag,hw,h⟩:=ER h; refine tD (d:=some _) rfl ek rfl (wV rfl a1.out b1.out eS.out rfl (by decide) (by decide) rfl ag hw) ?_) |(obtain⟨a,w,ag,hw,h⟩:=yA h; refine tD (d:=some _) rfl ek rfl (Nn rfl a1.out b1.out eS.out ag hw) ?_) |(obtain⟨a,w,ag,hw,h⟩:=Mp h; refine tD (d:=some _) rfl ek rfl (Nf rfl ag hw) ?_) |(obtain⟨a,w,ag,hw,h⟩:=rr h; refine tD (d:=some _) rfl ek rfl (AG rfl b1.out rfl ag hw) ?_)))
  |exact aen h kR
  |exact aeo h kR
  |exact aep h kR
  |exact aeq h kR
  |exact aer h kR
  |exact aes h kR
  |exact aem h kR
  |exact afR h rfl):p:=h
abbrev b9:=Nat→Option Obj
def b9.le(a b:b9):Prop:=∀ k A,a k=some A→b k=some A
def b9.off(a b:b9):Prop:=∀ k,a k=none∨b k=none
structure bt where
 p:b9→b9→Prop
 mono:∀ {aG g3 h eI:b9},b9.le aG g3→b9.le h eI→p aG h→p g3 eI
theorem b9.le_refl(a:b9):b9.le a a:=fun _ _ h=>h
theorem b9.le_trans{a b o:b9}(h:b9.le a b)(k:b9.le b o):b9.le a o:=fun x A F=>k x A (h x A F)
theorem b9.wL{a b o:b9}(h:b9.off a b)(k:b9.le o b):b9.off a o:=fun x=>by
 cases W:o x with
 |none=>exact .inr rfl
 |some A=>exact .inl ((h x).resolve_right (by rw[k x A W]; simp))
theorem b9.V3{a b:b9}(h:b9.off a b):b9.off b a:=fun x=>(h x).symm
def ht:List bt→b9→b9→Prop
 |[],_,_=>True
 |b0::c,aG,h=>∃ B J,b9.off B J∧b9.le B h∧b9.le J h∧b0.p aG B∧ht c aG J
theorem ht.mono:∀ {c:List bt} {aG g3 h eI:b9},b9.le aG g3→b9.le h eI→ht c aG h→ht c g3 eI
 |[],_,_,_,_,_,_,_=>trivial
 |_::_,_,_,_,_,b6,bV,⟨B,J,ab,cx,cE,ag,aj⟩=>⟨B,J,ab,(b9.le_trans cx bV),(b9.le_trans cE bV),bt.mono _ b6 (b9.le_refl _) ag,ht.mono b6 (b9.le_refl _) aj⟩
def de(c:List bt):bt:=⟨ht c,ht.mono⟩
def fE{S:Type}(f:S→bt):bt:=⟨fun aG h=>∃ x,(f x).p aG h,fun b6 bV ⟨x,F⟩=>⟨x,(f x).mono b6 bV F⟩⟩
def jT(eK:Prop):bt:=⟨fun _ _=>eK,fun _ _ h=>h⟩
def iO(b:Nat)(A:Obj):bt:=⟨fun _ h=>h b=some A,fun _ bV h=>bV b A h⟩
def aN(b:Nat)(a4:List Value)(t:TypeId):bt:=iO b (.cells a4.toArray t)
def qj(eK:b9→Prop)(m:∀ {aG g3:b9},b9.le aG g3→eK aG→eK g3):bt:=⟨fun aG _=>eK aG,fun b6 _ h=>m b6 h⟩
structure E(y:World)(c:List bt)(w:World):Prop where
 os:w.os=y.os
 tape:w.tape=y.tape
 output:w.output=y.output
 size:y.heap.size≤w.heap.size
 mem:∃ aG h:b9,b9.off aG h∧(∀ b A,aG b=some A→w.heap[b]?=some A)∧(∀ b A,h b=some A→w.heap[b]?=some A)∧ht c aG h
section
variable {y w I:World} {c bx:List bt} {b0 ai:bt}
theorem E.same(H:E y c w)(ab:I.os=w.os)(ak:I.tape=w.tape)(hu:I.output=w.output)(bV:I.heap=w.heap):E y c I:=
 ⟨ab.trans H.os,ak.trans H.tape,hu.trans H.output,bV▸H.size,by rw[bV]; exact H.mem⟩
theorem E.drew(H:E y c w):E y c w.drew:=H.same rfl rfl rfl rfl
theorem E.imp(H:E y c w)(h:∀ aG h,ht c aG h→ht bx aG h):E y bx w:=
 ⟨H.os,H.tape,H.output,H.size,let ⟨aG,k,a,b,o,d⟩:=H.mem; ⟨aG,k,a,b,o,h aG k d⟩⟩
theorem ht.swap{aG h:b9}(H:ht (b0::ai::c) aG h):ht (ai::b0::c) aG h:=by
 obtain⟨B,J,ab,cx,cE,ag,au,a8,wB,pG,tv,aA,aj⟩:=H;refine⟨au,fun x=>if (au x).isSome then none else h x,?_,(b9.le_trans pG cE),?_,aA,B,a8,?_,?_,?_,ag,aj⟩
 ·intro x;cases h:au x<;>simp[h]
 ·intro x A F;by_cases e:(au x).isSome<;>simp[e] at F; exact F
 ·exact b9.wL ab tv
 ·intro x A F;have:au x=none:=by
   rcases ab x with h | h
   ·rw[h] at F; cases F
   ·cases ahu:au x with
    |none=>rfl
    |some u=>rw[pG x u ahu] at h; cases h
  simp[this,cx x A F]
 ·intro x A F;have:au x=none:=(wB x).resolve_right (by rw[F]; simp);simp[this,cE x A (tv x A F)]
theorem ht.tail{aG h:b9}(g:∀ aG h,ht c aG h→ht bx aG h)(H:ht (b0::c) aG h):ht (b0::bx) aG h:=by
 obtain⟨B,J,ab,cx,cE,ag,aj⟩:=H;exact⟨B,J,ab,cx,cE,ag,g _ _ aj⟩
theorem ht.perm(aH:c.Perm bx):∀ {aG h:b9},ht c aG h→ht bx aG h:=by
 induction aH with
 |nil=>exact fun h=>h
 |cons x _ b8=>exact fun h=>ht.tail (fun _ _ h=>b8 h) h
 |swap x N _=>exact fun h=>ht.swap h
 |trans _ _ i1 i2=>exact fun h=>i2 (i1 h)
theorem E.perm(H:E y c w)(aH:c.Perm bx):E y bx w:=H.imp fun _ _ h=>h.perm aH
def front(i:Nat)(c:List bt):List bt:=match c,i with
 |[],_=>[]
 |b0::c,0=>b0::c
 |b0::c,i+1=>match front i c with
  |[]=>[b0]
  |ai::r=>ai::b0::r
theorem JM:∀ (i:Nat) (c:List bt),c.Perm (front i c)
 |_,[]=>by simp[front]
 |0,_::_=>.refl _
 |i+1,b0::c=>by
  have b8:=JM i c;simp only[front];cases ap:front i c with
  |nil=>rw[ap] at b8; rw[List.Perm.eq_nil b8]
  |cons ai r=>rw[ap] at b8; exact (b8.cons b0).trans (.swap ai b0 r)
theorem E.front(i:Nat)(H:E y c w):E y (front i c) w:=H.perm (JM i c)
def ord:List Nat→List bt→List bt
 |[],c=>c
 |i::hF,c=>_root_.Go.Proofs.YtnmmjkjkkmbhiaaGreat.ba.front (i+(hF.filter fun l=>Nat.blt i l).length) (ord hF c)
theorem E.ord:∀ (hF:List Nat),E y c w→E y (ba.ord hF c) w
 |[],H=>H
 |i::hF,H=>(E.ord hF H).front _
theorem E.drop(H:E y (b0::c) w):E y c w:=H.imp fun _ _ ⟨_,_,_,_,cE,_,aj⟩=>ht.mono (b9.le_refl _) cE aj
theorem E.ex{S:Type}{f:S→bt}(H:E y (fE f::c) w):∃ x,E y (f x::c) w:=by
 obtain⟨aG,h,a,b,o,B,J,ab,cx,cE,⟨x,F⟩,aj⟩:=H.mem;exact⟨x,H.os,H.tape,H.output,H.size,aG,h,a,b,o,B,J,ab,cx,cE,F,aj⟩
theorem E.kQ{S:Type}{f:S→bt}(x:S)(H:E y (f x::c) w):E y (fE f::c) w:=
 H.imp fun _ _ ⟨B,J,ab,cx,cE,ag,aj⟩=>⟨B,J,ab,cx,cE,⟨x,ag⟩,aj⟩
theorem E.sM{eK:Prop}(H:E y (jT eK::c) w):eK∧E y c w:=by
 refine⟨?_,H.drop⟩;obtain⟨aG,h,a,b,o,B,J,ab,cx,cE,F,aj⟩:=H.mem;exact F
theorem E.rD{eK:Prop}(alg:eK)(H:E y c w):E y (jT eK::c) w:=
 H.imp fun _ h aj=>⟨fun _=>none,h,fun _=>.inl rfl,fun _ _ h=>(by cases h),b9.le_refl _,alg,aj⟩
theorem ht.append{bx:List bt}{aG h:b9}:∀ {c:List bt},ht (c++bx) aG h↔ht (de c::bx) aG h
 |[]=>⟨fun H=>⟨fun _=>none,h,fun _=>.inl rfl,fun _ _ h=>(by cases h),b9.le_refl _,trivial,H⟩,fun ⟨_,_,_,_,cE,_,aj⟩=>ht.mono (b9.le_refl _) cE aj⟩
 |b0::c=>by
  constructor
  ·rintro⟨B,J,ab,cx,cE,ag,aj⟩;obtain⟨au,a8,wB,pG,tv,aF,Ct⟩:=ht.append.1 aj;refine⟨fun x=>(B x).or (au x),a8,?_,?_,(b9.le_trans tv cE),⟨B,au,b9.wL ab pG,?_,?_,ag,aF⟩,Ct⟩
   ·intro x;rcases wB x with h | h
    ·rcases b9.wL ab tv x with k | k
     ·left; simp[h,k]
     ·exact .inr k
    ·exact .inr h
   ·intro x A F;cases e:B x with
    |some u=>simp[e] at F; subst F; exact cx x u e
    |none=>simp[e] at F; exact cE x A (pG x A F)
   ·intro x A F; simp[F]
   ·intro x A F;have:B x=none:=(b9.wL ab pG x).resolve_right (by rw[F]; simp);simp[this,F]
  ·rintro⟨Ty,a8,ab,FR,tv,⟨B,au,wB,cx,pG,ag,aF⟩,Ct⟩;refine⟨B,fun x=>if (B x).isSome then none else h x,?_,(b9.le_trans cx FR),?_,ag,?_⟩
   ·intro x; cases e:B x<;>simp[e]
   ·intro x A F;by_cases e:(B x).isSome<;>simp[e] at F; exact F
   ·refine ht.append.2 ⟨au,a8,b9.wL (b9.V3 (b9.wL (b9.V3 ab) pG)) (b9.le_refl _),?_,?_,aF,Ct⟩
    ·intro x A F;have:B x=none:=(wB x).resolve_right (by rw[F]; simp);simp[this,FR x A (pG x A F)]
    ·intro x A F;have:B x=none:=by
      rcases ab x with k | k
      ·cases e:B x with
       |none=>rfl
       |some u=>rw[cx x u e] at k; cases k
      ·rw[k] at F; cases F
     simp[this,tv x A F]
theorem E.open_{bx:List bt}(H:E y (de bx::c) w):E y (bx++c) w:=H.imp fun _ _ h=>ht.append.2 h
theorem E.shut{bx:List bt}(H:E y (bx++c) w):E y (de bx::c) w:=H.imp fun _ _ h=>ht.append.1 h
theorem E.dup{eK:b9→Prop}{m:∀ {aG g3:b9},b9.le aG g3→eK aG→eK g3}(H:E y (qj eK m::c) w):E y (qj eK m::qj eK m::c) w:=
 H.imp fun _ h ⟨B,J,ab,cx,cE,ag,aj⟩=>⟨fun _=>none,h,fun _=>.inl rfl,fun _ _ h=>(by cases h),b9.le_refl _,ag,B,J,ab,cx,cE,ag,aj⟩
theorem E.q7{eK:b9→Prop}{m:∀ {aG g3:b9},b9.le aG g3→eK aG→eK g3}(H:E y (qj eK m::c) w):∃ aG:b9,(∀ b A,aG b=some A→w.heap[b]?=some A)∧eK aG:=by
 obtain⟨aG,h,a,b,o,B,J,ab,cx,cE,F,aj⟩:=H.mem;exact⟨aG,b,F⟩
theorem E.Lq{eK s4:b9→Prop}{m:∀ {aG g3:b9},b9.le aG g3→eK aG→eK g3}{dD:∀ {aG g3:b9},b9.le aG g3→s4 aG→s4 g3}(h:∀ aG,eK aG→s4 aG)(H:E y (qj eK m::c) w):E y (qj s4 dD::c) w:=
 H.imp fun aG _ ⟨B,J,ab,cx,cE,ag,aj⟩=>⟨B,J,ab,cx,cE,h aG ag,aj⟩
theorem E.get{b:Nat}{A:Obj}(H:E y (iO b A::c) w):w.heap[b]?=some A:=by
 obtain⟨aG,h,a,q3,o,B,J,ab,cx,cE,F,aj⟩:=H.mem;exact o b A (cx b A F)
theorem E.put{b:Nat}{A u:Obj}(H:E y (iO b A::c) w)(B:I.os=w.os)(J:I.tape=w.tape)(au:I.output=w.output)(a8:I.heap=w.heap.setIfInBounds b u):E y (iO b u::c) I:=by
 obtain⟨aG,h,a,q3,o,fj,fF,ab,cx,cE,F,aj⟩:=H.mem;have aA:=o b A (cx b A F);have cA:b<w.heap.size:=(Array.getElem?_eq_some_iff.1 aA).1;refine⟨B.trans H.os,J.trans H.tape,au.trans H.output,by rw[a8]; simpa using H.size,aG,fun x=>if x=b then some u else fF x,?_,?_,?_,fun x=>if x=b then some u else none,fF,?_,?_,?_,?_,aj⟩
 ·intro x;by_cases e:x=b
  ·subst e; exact .inl ((a x).resolve_right (by rw[cx x A F]; simp))
  ·simp only[e,if_false];exact b9.wL a cE x
 ·intro x v ax;rw[a8,Array.getElem?_setIfInBounds];have ec:b≠x:=by
   intro e; subst e;have:=(a b).resolve_right (by rw[cx b A F]; simp);rw[this] at ax; cases ax
  rw[if_neg ec]; exact q3 x v ax
 ·intro x v ax;rw[a8,Array.getElem?_setIfInBounds];by_cases e:x=b
  ·subst e; simp at ax; simp[cA,ax]
  ·simp only[e,if_false] at ax;rw[if_neg (fun h=>e h.symm)];exact o x v (cE x v ax)
 ·intro x;by_cases e:x=b
  ·subst e; right; exact (ab x).resolve_left (by rw[F]; simp)
  ·left; simp[e]
 ·intro x v ax;by_cases e:x=b<;>simp[e] at ax ⊢; exact ax
 ·intro x v ax;have:x≠b:=by
   intro e; subst e;have:=(ab x).resolve_left (by rw[F]; simp);rw[this] at ax; cases ax
  simp[this,ax]
 ·show (fun x=>if x=b then some u else none) b=some u
  simp
theorem E.alloc(A:Obj)(H:E y c w):E y (iO w.heap.size A::c) (w.alloc A):=by
 obtain⟨aG,h,a,q3,o,aj⟩:=H.mem;have b6:aG w.heap.size=none:=by
  cases e:aG w.heap.size with
  |none=>rfl
  |some u=>have:=q3 _ _ e; simp at this
 have bV:h w.heap.size=none:=by
  cases e:h w.heap.size with
  |none=>rfl
  |some u=>have:=o _ _ e; simp at this
 refine⟨H.os,H.tape,H.output,by have:=H.size; simp; omega,aG,fun x=>if x=w.heap.size then some A else h x,?_,?_,?_,fun x=>if x=w.heap.size then some A else none,h,?_,?_,?_,?_,aj⟩
 ·intro x;by_cases e:x=w.heap.size
  ·subst e; exact .inl b6
  ·simp only[e,if_false]; exact a x
 ·intro x v ax;have cA:x<w.heap.size:=(Array.getElem?_eq_some_iff.1 (q3 x v ax)).1;simp only[World.alloc,Array.getElem?_push];rw[if_neg (by omega)]; exact q3 x v ax
 ·intro x v ax;simp only[World.alloc,Array.getElem?_push];by_cases e:x=w.heap.size
  ·simp[e] at ax ⊢; exact ax
  ·simp only[e,if_false] at ax ⊢; exact o x v ax
 ·intro x;by_cases e:x=w.heap.size
  ·right; rw[e]; exact bV
  ·left; simp[e]
 ·intro x v ax;by_cases e:x=w.heap.size<;>simp[e] at ax ⊢; exact ax
 ·intro x v ax;have:x≠w.heap.size:=by intro e; rw[e,bV] at ax; cases ax
  simp[this,ax]
 ·show (fun x=>if x=w.heap.size then some A else none) w.heap.size=some A
  simp
theorem E.stay{b:Nat}{A:Obj}(H:E y (iO b A::c) w):E y (qj (fun aG=>aG b=some A) (fun h k=>h _ _ k)::c) w:=by
 obtain⟨aG,h,a,q3,o,fj,fF,ab,cx,cE,F,aj⟩:=H.mem;have aA:=o b A (cx b A F);have ahx:aG b=none:=(a b).resolve_right (by rw[cx b A F]; simp);have k6:b9.le aG (fun x=>if x=b then some A else aG x):=by
  intro x v ax;have:x≠b:=by intro e; rw[e,ahx] at ax; cases ax
  simp[this,ax]
 refine⟨H.os,H.tape,H.output,H.size,fun x=>if x=b then some A else aG x,fF,?_,?_,?_,fun _=>none,fF,fun _=>.inl rfl,fun _ _ h=>(by cases h),b9.le_refl _,?_,ht.mono k6 (b9.le_refl _) aj⟩
 ·intro x;by_cases e:x=b
  ·subst e; right; exact (ab x).resolve_left (by rw[F]; simp)
  ·simp only[e,if_false]; exact b9.wL a cE x
 ·intro x v ax;by_cases e:x=b
  ·subst e; simp at ax; subst ax; exact aA
  ·simp only[e,if_false] at ax; exact q3 x v ax
 ·intro x v ax; exact o x v (cE x v ax)
 ·show (fun x=>if x=b then some A else aG x) b=some A
  simp
end
section
variable {y w I:World} {c bx:List bt} {b0 ai:bt} {S:Type} {T:a_ S} {t:TypeId}
theorem iN(b A n:Nat):(⟨b,A,none⟩:Addr).add n=⟨b,A+n,none⟩:=by
 unfold Addr.add;by_cases h:n=0
 ·subst h; rfl
 ·rw[if_neg h]
theorem px{b:Nat}{a4:Array Value}{kt:Nat×Nat}(h:w.heap[b]?=some (.cells a4 t kt))(l:Nat):w.cell? ⟨b,l,none⟩=a4[l]?:=by
 simp[World.cell?,h]
theorem ahg{b:Nat}{a4:Array Value}(h:w.heap[b]?=some (.cells a4 t))(l:Nat):w.frozen? ⟨b,l,none⟩=false:=by
 simp[World.frozen?,h]
def at_(a4:List Value)(A n:Nat):List Value:=(a4.drop A).take n
theorem Yb{b A:Nat}{a4 xs:List Value}(H:E y (aN b a4 t::c) w)(h:at_ a4 A xs.length=xs):mb w ⟨b,A,none⟩ xs:=by
 intro l v ax;have aA:=H.get;rw[iN,px aA];have cA:=(List.getElem?_eq_some_iff.1 ax).1;rw[← h] at ax;simp only[at_,List.getElem?_take,List.getElem?_drop] at ax;rw[if_pos cA] at ax;simpa using ax
theorem zj{b A n:Nat}{a4:List Value}(H:E y (aN b a4 t::c) w)(h:A+n≤a4.length):td w ⟨b,A,none⟩ n:=by
 intro l a7;have aA:=H.get;rw[iN];refine⟨?_,ahg aA _⟩;rw[px aA];have:A+l<a4.toArray.size:=by simp; omega
 rw[Array.getElem?_eq_getElem this]; rfl
theorem cW{S:Type}(T:a_ S){b A:Nat}{a4:List Value}{x:S}{a:Addr}(H:E y (aN b a4 t::c) w)(ag:a=⟨b,A,none⟩)(h:at_ a4 A (T.cells x).length=T.cells x):M T a w x:=by subst ag; exact Yb H h
def iG(a4:List Value)(A:Nat)(xs:List Value):List Value:=a4.take A++xs++a4.drop (A+xs.length)
theorem ayL(a4:List Value)(A:Nat)(v:Value)(xs:List Value)(h:A<a4.length):iG (a4.set A v) (A+1) xs=iG a4 A (v::xs):=by
 simp only[iG,List.length_cons];rw[List.drop_set_of_lt (by omega),List.take_set,List.take_add_one];have B:a4[A]?.toList=[a4[A]]:=by rw[List.getElem?_eq_getElem h]; rfl
 rw[B];have J:(a4.take A++[a4[A]]).set A v=a4.take A++[v]:=by
  rw[List.set_append_right _ _ (by simp; omega)];have:A-(a4.take A).length=0:=by simp; omega
  rw[this]; rfl
 rw[J,show A+1+xs.length=A+(xs.length+1) from by omega];simp
theorem ayM(a4:List Value)(A:Nat)(xs:List Value)(h:A+xs.length≤a4.length):(iG a4 A xs).length=a4.length:=by
 simp[iG]; omega
theorem ayO(a4:List Value)(A:Nat):iG a4 A []=a4:=by simp[iG]
theorem ayo{b A:Nat}{a4:Array Value}{kt:Nat×Nat}{v:Value}(h:w.heap[b]?=some (.cells a4 t kt)):(w.setCell ⟨b,A,none⟩ v).heap=w.heap.setIfInBounds b (.cells (a4.setIfInBounds A v) t kt):=by
 have cA:b<w.heap.size:=(Array.getElem?_eq_some_iff.1 h).1;simp only[World.setCell];apply Array.ext_getElem?;intro i;rw[Array.getElem?_modify,Array.getElem?_setIfInBounds];by_cases e:b=i
 ·subst e;have aA:w.heap[b]=.cells a4 t kt:=by rw[Array.getElem?_eq_getElem cA] at h; exact Option.some.inj h
  simp[cA,aA]
 ·simp[e]
theorem wU{b:Nat}:∀ (xs:List Value) (A i:Nat) (a4:List Value) (w:World),E y (aN b a4 t::c) w→A+i+xs.length≤a4.length →
  E y (aN b (iG a4 (A+i) xs) t::c) (mx w ⟨b,A,none⟩ i xs)
 |[],A,i,a4,w,H,_=>by rw[ayO]; exact H
 |v::xs,A,i,a4,w,H,aj=>by
  have aA:=H.get;have cA:A+i<a4.length:=by simp at aj; omega
  have fN:E y (aN b (a4.set (A+i) v) t::c) (w.setCell ⟨b,A+i,none⟩ v):=H.put rfl rfl rfl (by rw[ayo aA]; simp);have:=wU xs A (i+1) (a4.set (A+i) v) _ fN (by simp at aj ⊢; omega);rw[show A+(i+1)=A+i+1 from by omega,ayL _ _ _ _ cA] at this;simpa only[mx,iN] using this
theorem cj{x:S}{k:Addr→World→Prop}(H:E y c w)(al:∀ b I,E y (aN b (T.cells x) t::c) I→k ⟨b,0,none⟩ I):ch t T x w k:=al _ _ (H.alloc _)
theorem sE{xs:List S}{k:Addr→World→Prop}(H:E y c w)(al:∀ b I,E y (aN b (xs.flatMap T.cells) t::c) I→k ⟨b,0,none⟩ I):pI t T xs w k:=al _ _ (H.alloc _)
theorem qB{k:Nat→World→Prop}(H:E y c w)(al:∀ b I,E y (iO b (.map #[] 0)::c) I→k b I):pf w k:=al _ _ (H.alloc _)
theorem dH{k:World→Prop}(H:E y c w)(al:∀ I,E y c I→k I):ds w k:=al _ H.drew
theorem an{b A:Nat}{a4:List Value}{x:S}{a:Addr}{k:S→Prop}(i:Nat)(H:E y c w)(aq:front i c=aN b a4 t::bx)(ag:a=⟨b,A,none⟩)(F:at_ a4 A (T.cells x).length=T.cells x)(al:k x):ex (M T a w) k:=
 ⟨x,by subst ag; exact Yb (aq▸H.front i) F,al⟩
theorem eg{b A:Nat}{a4:List Value}{x:S}{a:Addr}{k:World→Prop}(i:Nat)(H:E y c w)(aq:front i c=aN b a4 t::bx)(ag:a=⟨b,A,none⟩)(aj:A+(T.cells x).length≤a4.length)
  (al:∀ I,E y (aN b (iG a4 A (T.cells x)) t::bx) I→k I):br T a x w k:=by
 subst ag;exact⟨zj (aq▸H.front i) aj,al _ (wU (T.cells x) A 0 a4 w (aq▸H.front i) (by simpa using aj))⟩
theorem aQ{S:Type}{C k:S→Prop}(x:S)(h:C x)(al:k x):ex C k:=⟨x,h,al⟩
theorem b2{p:Option Addr}{a:Addr}{k:Addr→Prop}(h:p=some a)(al:k a):ex (bI p) k:=⟨a,h,al⟩
def Gn(b0 ai:bt):bt:=⟨fun aG h=>b0.p aG h∨ai.p aG h,fun b6 bV h=>h.imp (b0.mono b6 bV) (ai.mono b6 bV)⟩
theorem E.or(H:E y (Gn b0 ai::c) w):E y (b0::c) w∨E y (ai::c) w:=by
 obtain⟨aG,h,a,b,o,B,J,ab,cx,cE,F,aj⟩:=H.mem;rcases F with F | F
 ·exact .inl ⟨H.os,H.tape,H.output,H.size,aG,h,a,b,o,B,J,ab,cx,cE,F,aj⟩
 ·exact .inr ⟨H.os,H.tape,H.output,H.size,aG,h,a,b,o,B,J,ab,cx,cE,F,aj⟩
theorem E.inl(H:E y (b0::c) w):E y (Gn b0 ai::c) w:=H.imp fun _ _ ⟨B,J,ab,cx,cE,ag,aj⟩=>⟨B,J,ab,cx,cE,.inl ag,aj⟩
theorem E.inr(H:E y (ai::c) w):E y (Gn b0 ai::c) w:=H.imp fun _ _ ⟨B,J,ab,cx,cE,ag,aj⟩=>⟨B,J,ab,cx,cE,.inr ag,aj⟩
def er:X:=⟨none,0,0⟩
def row(T:a_ S)(t:TypeId)(ao:Nat)(s:X)(xs:List S):bt:=
 Gn (jT (s=er∧xs=[])) (fE fun b=>fE fun rest=>de [jT (s.a=some ⟨b,0,none⟩∧s.len=xs.length∧s.len≤s.cap∧(s.cap-s.len)*ao≤rest.length),aN b (xs.flatMap T.cells++rest) t])
def dL(T:a_ S)(s:X)(xs:List S)(aG:b9):Prop:=
 xs.length=s.len∧(xs=[]∨∃ b A arr t kt,s.a=some ⟨b,A,none⟩∧aG b=some (.cells arr t kt)∧∀ l v,(xs.flatMap T.cells)[l]?=some v→arr[A+l]?=some v)
theorem dL.mono{s:X}{xs:List S}{aG g3:b9}(h:b9.le aG g3):dL T s xs aG→dL T s xs g3:=fun ⟨B,J⟩=>
 ⟨B,J.imp id fun ⟨b,A,arr,t,kt,au,a8,b_⟩=>⟨b,A,arr,t,kt,au,h _ _ a8,b_⟩⟩
def ro(T:a_ S)(s:X)(xs:List S):bt:=qj (dL T s xs) dL.mono
theorem jW(T:a_ S)(t:TypeId)(ao:Nat)(H:E y c w):E y (row T t ao er []::c) w:=E.inl (E.rD ⟨rfl,rfl⟩ H)
theorem nj{ao:Nat}{s:X}{xs:List S}(H:E y (row T t ao s xs::c) w) :
  (s=er∧xs=[]∧E y c w)∨∃ b rest,s.a=some ⟨b,0,none⟩∧s.len=xs.length∧s.len≤s.cap∧(s.cap-s.len)*ao≤rest.length∧E y (aN b (xs.flatMap T.cells++rest) t::c) w:=by
 rcases H.or with H | H
 ·obtain⟨⟨B,J⟩,H⟩:=H.sM;exact .inl ⟨B,J,H⟩
 ·obtain⟨b,H⟩:=H.ex;obtain⟨rest,H⟩:=H.ex;have H:=H.open_;obtain⟨⟨B,J,au,a8⟩,H⟩:=E.sM (eK:=s.a=some ⟨b,0,none⟩∧s.len=xs.length∧s.len≤s.cap∧(s.cap-s.len)*ao≤rest.length) H;exact .inr ⟨b,rest,B,J,au,a8,H⟩
theorem rA{ao b:Nat}{rest:List Value}{s:X}{xs:List S}(B:s.a=some ⟨b,0,none⟩)(J:s.len=xs.length)(au:s.len≤s.cap)(a8:(s.cap-s.len)*ao≤rest.length)(H:E y (aN b (xs.flatMap T.cells++rest) t::c) w) :
  E y (row T t ao s xs::c) w:=E.inr (E.kQ b (E.kQ rest (E.shut (bx:=[jT _,aN b (xs.flatMap T.cells++rest) t]) (E.rD ⟨B,J,au,a8⟩ H))))
theorem rz{ao b:Nat}{xs:List S}{m:Nat}(hm:m=xs.length)(H:E y (aN b (xs.flatMap T.cells) t::c) w):E y (row T t ao ⟨some ⟨b,0,none⟩,m,m⟩ xs::c) w:=
 rA (rest:=[]) rfl hm (Nat.le_refl _) (by simp) (by rw[List.append_nil]; exact H)
theorem ho{ao:Nat}{s:X}{xs:List S}(H:E y (row T t ao s xs::c) w):s.len=xs.length:=by
 rcases nj H with ⟨rfl,rfl,_⟩ | ⟨b,rest,_,h,_⟩
 ·rfl
 ·exact h
theorem Yr{s:X}{xs:List S}(H:E y (ro T s xs::c) w):s.len=xs.length:=by
 obtain⟨aG,_,h⟩:=H.q7; exact h.1.symm
theorem GR{ao:Nat}{s:X}{xs:List S}(H:E y (row T t ao s xs::c) w):E y (ro T s xs::c) w:=by
 rcases nj H with ⟨rfl,rfl,ma⟩ | ⟨b,rest,B,J,au,a8,H⟩
 ·exact ma.imp fun aG h aj=>⟨fun _=>none,h,fun _=>.inl rfl,fun _ _ h=>(by cases h),b9.le_refl _,⟨rfl,.inl rfl⟩,aj⟩
 ·refine E.Lq (fun aG b6=>⟨J.symm,.inr ⟨b,0,_,t,(0,0),B,b6,?_⟩⟩) H.stay;intro l v ax;have cA:=(List.getElem?_eq_some_iff.1 ax).1;rw[Nat.zero_add];simp only[List.getElem?_toArray];rw[List.getElem?_append_left cA]; exact ax
theorem JJ{ao:Nat}(aj:∀ x,(T.cells x).length=ao):∀ (xs:List S) (i:Nat) (x:S),xs[i]?=some x→∀ l v,(T.cells x)[l]?=some v→(xs.flatMap T.cells)[i*ao+l]?=some v
 |[],i,x,h,_,_,_=>by simp at h
 |N::xs,0,x,h,l,v,ax=>by
  simp at h; subst h;have cA:=(List.getElem?_eq_some_iff.1 ax).1;rw[List.flatMap_cons,Nat.zero_mul,Nat.zero_add,List.getElem?_append_left cA]; exact ax
 |N::xs,i+1,x,h,l,v,ax=>by
  have b8:=JJ aj xs i x (by simpa using h) l v ax;rw[List.flatMap_cons,List.getElem?_append_right (by rw[aj,Nat.add_mul]; omega),aj];rw[show (i+1)*ao+l-ao=i*ao+l from by rw[Nat.add_mul]; omega]; exact b8
theorem lz{ao:Nat}{s:X}{xs:List S}{i:Int}{a:Addr}{x:S}(aj:∀ x,(T.cells x).length=ao)(ag:cz s ao i a)(F:xs[i.toNat]?=some x)(H:E y (row T t ao s xs::c) w):mb w a (T.cells x):=by
 obtain⟨o,W,am,B,rfl⟩:=ag;rcases nj H with ⟨rfl,rfl,H⟩ | ⟨b,rest,J,au,a8,b_,H⟩
 ·cases W
 ·rw[J] at W; injection W with W; subst W
  have aA:=H.get;intro l v ax;rw[iN,iN,px aA,Nat.zero_add];have:=JJ aj xs i.toNat x F l v ax;have cA:=(List.getElem?_eq_some_iff.1 this).1;simp only[List.getElem?_toArray];rw[List.getElem?_append_left cA]; exact this
theorem NC{ao:Nat}{s:X}{xs:List S}{i:Int}{a:Addr}{x:S}(aj:∀ x,(T.cells x).length=ao)(ag:cz s ao i a)(F:xs[i.toNat]?=some x)(H:E y (ro T s xs::c) w):mb w a (T.cells x):=by
 obtain⟨o,W,am,B,rfl⟩:=ag;obtain⟨aG,b6,J,au | ⟨b,A,arr,pk,kt,a8,b_,hv⟩⟩:=H.q7
 ·rw[au] at F; simp at F
 ·rw[a8] at W; injection W with W; subst W
  intro l v ax;rw[iN,iN,px (b6 _ _ b_)];rw[show A+i.toNat*ao+l=A+(i.toNat*ao+l) from by omega];exact hv _ _ (JJ aj xs i.toNat x F l v ax)
theorem U1{ao:Nat}{s:X}{xs:List S}{i:Int}{k:Addr→Prop}(H:E y (row T t ao s xs::c) w)(am:0≤i)(B:i<xs.length)(al:∀ a,cz s ao i a→k a):ex (cz s ao i) k:=by
 rcases nj H with ⟨rfl,rfl,H⟩ | ⟨b,rest,J,au,_⟩
 ·simp at B; omega
 ·exact⟨_,⟨_,J,am,by omega,rfl⟩,al _ ⟨_,J,am,by omega,rfl⟩⟩
theorem as2{ao:Nat}{s:X}{xs:List S}{i:Int}{k:Addr→Prop}(H:E y (ro T s xs::c) w)(am:0≤i)(B:i<xs.length)(al:∀ a,cz s ao i a→k a):ex (cz s ao i) k:=by
 obtain⟨aG,b6,J,au | ⟨b,A,arr,pk,kt,a8,b_,hv⟩⟩:=H.q7
 ·rw[au] at B; simp at B; omega
 ·exact⟨_,⟨_,a8,am,by omega,rfl⟩,al _ ⟨_,a8,am,by omega,rfl⟩⟩
theorem I3{a:Addr}{a4 hs:List Value}{A:Nat}(h:mb w a a4)(ag:a.spot=none)(aF:at_ a4 A hs.length=hs):mb w (a.add A) hs:=by
 intro l v ax;have cA:=(List.getElem?_eq_some_iff.1 ax).1;rw[← aF] at ax;simp only[at_,List.getElem?_take,List.getElem?_drop] at ax;rw[if_pos cA] at ax;have:=h (A+l) v ax;obtain⟨b,p,q⟩:=a;simp only at ag; subst ag;rw[iN,iN] at *;rw[show p+A+l=p+(A+l) from by omega]; exact this
theorem xq{ao:Nat}{s:X}{xs:List S}(H:E y (row T t ao s xs::c) w):jN T w s xs:=by
 rcases nj H with ⟨rfl,rfl,H⟩ | ⟨b,rest,J,au,a8,b_,H⟩
 ·exact⟨rfl,rfl⟩
 ·refine⟨au.symm,?_⟩;rw[J];have aA:=H.get;intro l v ax;have cA:=(List.getElem?_eq_some_iff.1 ax).1;rw[iN,px aA,Nat.zero_add];simp only[List.getElem?_toArray];rw[List.getElem?_append_left cA]; exact ax
theorem I1{s:X}{xs:List S}(H:E y (ro T s xs::c) w):jN T w s xs:=by
 obtain⟨aG,b6,J,au | ⟨b,A,arr,pk,kt,a8,b_,hv⟩⟩:=H.q7
 ·refine⟨J,?_⟩;subst au;generalize s.a=q;cases q with
  |none=>rfl
  |some a=>intro l v ax; simp at ax
 ·refine⟨J,?_⟩;rw[a8];intro l v ax;rw[iN,px (b6 _ _ b_)];exact hv _ _ ax
theorem Jg{ao U:Nat}{s:X}{xs new:List S}{k:X→World→Prop}(aj:∀ x,(T.cells x).length=ao)(H:E y (row T t ao s xs::c) w)(aA:(xs.length+new.length)*U≤140737488355328)
  (al:∀ r I,E y (row T t ao r (xs++new)::c) I→k r I):k0 t T ao U s new w k:=by
 have aO:=ho H;have pF:=xq H;refine⟨fun W=>?_,fun W=>⟨by rw[aO]; exact aA,xs,pF,fun o rest B J=>?_⟩⟩
 ·rcases nj H with ⟨rfl,rfl,ma⟩ | ⟨b,rest,J,au,a8,b_,H⟩
  ·have am:new=[]:=by
    cases new with
    |nil=>rfl
    |cons=>simp[er] at W
   subst am;exact al _ _ (jW T t ao ma)
  ·rw[J];simp only[iN,Nat.zero_add];have jQ:(xs.flatMap T.cells).length=s.len*ao:=by rw[lR aj,au]
   have m0:(new.flatMap T.cells).length=new.length*ao:=lR aj _;have re:new.length*ao≤rest.length:=Nat.le_trans (Nat.mul_le_mul_right ao (by omega)) b_;refine⟨zj H (by simp[jQ]; omega),al _ _ ?_⟩;have:=wU (new.flatMap T.cells) (s.len*ao) 0 _ _ H (by simp[jQ,m0]; omega)
   refine rA (rest:=rest.drop (new.length*ao)) rfl (by simp; omega) (by simpa using W) (by
    rw[List.length_drop];have e:(s.cap-(s.len+new.length))*ao=(s.cap-s.len)*ao-new.length*ao:=by rw[← Nat.sub_mul]; congr 1; omega
    simp only
    rw[e]; omega) ?_
   have e:iG (xs.flatMap T.cells++rest) (s.len*ao+0) (new.flatMap T.cells)=(xs++new).flatMap T.cells++rest.drop (new.length*ao):=by
    simp only[iG,Nat.add_zero,m0];rw[← jQ,List.take_left,List.drop_append];simp
   rw[e] at this;exact this
 ·have fN:E y c w.drew:=(H.drop).drew;refine al _ _ (rA rfl (by simp; omega) B (by simpa using Nat.le_of_eq J.symm) (fN.alloc _))
theorem me{ao U:Nat}{s:X}{xs new:List S}{k:X→World→Prop}(aj:∀ x,(T.cells x).length=ao)(i:Nat)(H:E y c w)(aq:front i c=row T t ao s xs::bx)(aA:(xs.length+new.length)*U≤140737488355328)
  (al:∀ r I,E y (row T t ao r (xs++new)::bx) I→k r I):kG t T ao U s new w k:=by
 have fN:E y (row T t ao s xs::bx) w:=aq▸H.front i;have eL:=fN.alloc (.cells (new.flatMap T.cells).toArray t);exact Jg aj eL.drop aA al
theorem zJ{ao U:Nat}{s b:X}{xs new:List S}{k:X→World→Prop}(aj:∀ x,(T.cells x).length=ao)(i:Nat)(H:E y c w)(aq:front i c=row T t ao s xs::bx)(aO:jN T w b new)(aA:(xs.length+new.length)*U≤140737488355328)
  (al:∀ r I,E y (row T t ao r (xs++new)::bx) I→k r I):q1 t T ao U s b w k:=
 ⟨new,aO,Jg aj (aq▸H.front i) aA al⟩
end
section
variable {y w I:World} {c bx:List bt} {b0 ai:bt} {S:Type} {T:a_ S} {t:TypeId} {k:IntKind}
theorem lZ(key:Int)(v:S)(x:Int):∀ es:List (Int×S),(bM key v es).lookup x=if x==key then some v else es.lookup x
 |[]=>by
  by_cases h:(x==key)=true
  ·simp[bM,List.lookup,h]
  ·simp only[Bool.not_eq_true] at h; simp[bM,List.lookup,h]
 |(a,b)::es=>by
  have b8:=lZ key v x es;simp only[bM];by_cases h:(key==a)=true
  ·have e:key=a:=by simpa using h
   subst e;by_cases g:(x==key)=true
   ·simp[List.lookup,g]
   ·simp only[Bool.not_eq_true] at g; simp[List.lookup,g]
  ·simp only[Bool.not_eq_true] at h;simp only[h,Bool.false_eq_true,if_false,List.lookup,b8];by_cases g:(x==a)=true
   ·have e:x=a:=by simpa using g
    subst e;have:(x==key)=false:=by simpa using fun e=>by simp[e] at h
    simp[this]
   ·simp only[Bool.not_eq_true] at g; simp[g]
theorem LI(key:Int)(v:S):∀ es:List (Int×S),(bM key v es).map (·.1)=if (es.lookup key).isSome then es.map (·.1) else es.map (·.1)++[key]
 |[]=>rfl
 |(a,b)::es=>by
  have b8:=LI key v es;simp only[bM];by_cases h:(key==a)=true
  ·have e:key=a:=by simpa using h
   subst e; simp[List.lookup]
  ·simp only[Bool.not_eq_true] at h;simp only[h,Bool.false_eq_true,if_false,List.lookup,List.map_cons,b8];split<;>simp
theorem C4{key:Int}:∀ {es:List (Int×S)},es.lookup key=none↔key∉es.map (·.1)
 |[]=>by simp
 |(a,b)::es=>by
  by_cases h:(key==a)=true
  ·have e:key=a:=by simpa using h
   subst e; simp[List.lookup]
  ·simp only[Bool.not_eq_true] at h;have e:key≠a:=by simpa using h
   simp only[List.lookup,h,List.map_cons,List.mem_cons,e,false_or];exact C4
theorem qA{key:Int}{v:S}{es:List (Int×S)}(h:(es.map (·.1)).Nodup):((bM key v es).map (·.1)).Nodup:=by
 rw[LI];split
 ·exact h
 ·rename_i aO;have:es.lookup key=none:=by cases e:es.lookup key with | none=>rfl | some u=>rw[e] at aO; simp at aO
  rw[List.nodup_append];refine⟨h,by simp,?_⟩;intro a ag b aA e;simp at aA; subst aA; subst e;exact C4.1 this ag
theorem Ve{key:Int}:∀ {es:List (Int×S)},((del key es).map (·.1)).Sublist (es.map (·.1))
 |[]=>.slnil
 |(a,b)::es=>by
  simp only[del];split
  ·exact (List.sublist_cons_self _ _)
  ·exact (Ve (es:=es)).cons_cons a
theorem Mi{key:Int}{es:List (Int×S)}(h:(es.map (·.1)).Nodup):((del key es).map (·.1)).Nodup:=h.sublist Ve
theorem C2(key x:Int):∀ es:List (Int×S),(es.map (·.1)).Nodup→(del key es).lookup x=if x==key then none else es.lookup x
 |[],_=>by simp[del]
 |(a,b)::es,h=>by
  have aO:a∉es.map (·.1):=(List.nodup_cons.1 h).1;have b8:=C2 key x es (List.nodup_cons.1 h).2;simp only[del];by_cases g:(key==a)=true
  ·have e:key=a:=by simpa using g
   subst e;simp only[g,if_true,List.lookup];by_cases q:(x==key)=true
   ·have e:x=key:=by simpa using q
    subst e; simp[C4.2 aO]
   ·simp only[Bool.not_eq_true] at q; simp[q]
  ·simp only[Bool.not_eq_true] at g;simp only[g,Bool.false_eq_true,if_false,List.lookup,b8];by_cases q:(x==a)=true
   ·have e:x=a:=by simpa using q
    subst e;have:(x==key)=false:=by simpa using fun e=>by simp[e] at g
    simp[this]
   ·simp only[Bool.not_eq_true] at q; simp[q]
def bR(T:a_ S)(k:IntKind)(r:Nat)(es:List (Int×S)):bt:=fE fun arr=>fE fun o=>de [jT (qb T k arr es∧oO arr o∧(es.map (·.1)).Nodup),iO r (.map arr o)]
theorem rp{r:Nat}{es:List (Int×S)}(H:E y (bR T k r es::c) w):∃ arr o,qb T k arr es∧oO arr o∧(es.map (·.1)).Nodup∧E y (iO r (.map arr o)::c) w:=by
 obtain⟨arr,H⟩:=H.ex;obtain⟨o,H⟩:=H.ex;have H:=H.open_;obtain⟨⟨B,aA,J⟩,H⟩:=E.sM (eK:=qb T k arr es∧oO arr o∧(es.map (·.1)).Nodup) H;exact⟨arr,o,B,aA,J,H⟩
theorem F8{r:Nat}{es:List (Int×S)}{arr:Array MapEntry}{o:Nat}(B:qb T k arr es)(aA:oO arr o)(J:(es.map (·.1)).Nodup)(H:E y (iO r (.map arr o)::c) w):E y (bR T k r es::c) w:=
 E.kQ arr (E.kQ o (E.shut (bx:=[jT _,iO r (.map arr o)]) (E.rD ⟨B,aA,J⟩ H)))
theorem L3{r:Nat}{es:List (Int×S)}(H:E y (bR T k r es::c) w):(es.map (·.1)).Nodup:=by
 obtain⟨_,_,_,_,h,_⟩:=rp H; exact h
theorem qz{r:Nat}(T:a_ S)(k:IntKind)(H:E y (iO r (.map #[] 0)::c) w):E y (bR T k r []::c) w:=F8 (by simp[qb]) ⟨by simp,by simp⟩ (by simp) H
theorem iV{r:Nat}{es:List (Int×S)}{key:Int}{aa:Option S→Prop}{m:Option Nat}(i:Nat)(H:E y c w)(aq:front i c=bR T k r es::bx)(hm:m=some r)(al:aa (es.lookup key)):ex (fO T k m key w) aa:=by
 obtain⟨arr,o,B,u1,J,H⟩:=rp (aq▸H.front i);subst hm;exact⟨_,⟨es,⟨arr,o,H.get,B,u1⟩,rfl⟩,al⟩
theorem C8{r:Nat}{es:List (Int×S)}{aa:Nat→Prop}{m:Option Nat}(i:Nat)(H:E y c w)(aq:front i c=bR T k r es::bx)(hm:m=some r)(al:aa es.length):ex (nu m w) aa:=by
 obtain⟨arr,o,B,u1,J,H⟩:=rp (aq▸H.front i);subst hm;have aj:es.length=arr.size:=by have:=congrArg List.length B; simpa using this.symm
 exact⟨_,⟨arr,o,H.get,aj⟩,al⟩
theorem YI{r:Nat}{A:Obj}{arr:Array MapEntry}{o:Nat}(H:E y (iO r A::c) w):E y (iO r (.map arr o)::c) (sQ w r arr o):=H.put rfl rfl rfl rfl
theorem pd{r:Nat}{es:List (Int×S)}{key:Int}{v:S}{aa:World→Prop}{m:Option Nat}(i:Nat)(H:E y c w)(aq:front i c=bR T k r es::bx)(hm:m=some r)
  (al:∀ I,E y (bR T k r (bM key v es)::bx) I→aa I):nb T k m key v w aa:=by
 obtain⟨arr,o,B,u1,J,H⟩:=rp (aq▸H.front i);exact⟨r,es,hm,⟨arr,o,H.get,B,u1⟩,fun rV E1 eI nz=>al _ (F8 eI nz (qA J) (YI H))⟩
theorem L7{r:Nat}{es:List (Int×S)}{key:Int}{aa:World→Prop}{m:Option Nat}(i:Nat)(H:E y c w)(aq:front i c=bR T k r es::bx)(hm:m=some r)
  (al:∀ I,E y (bR T k r (del key es)::bx) I→aa I):C6 T k m key w aa:=by
 obtain⟨arr,o,B,u1,J,H⟩:=rp (aq▸H.front i);subst hm;exact⟨es,⟨arr,o,H.get,B,u1⟩,fun rV E1 eI nz=>al _ (F8 eI nz (Mi J) (YI H))⟩
theorem wrap_i64{x:Int}(am:-9223372036854775808≤x)(B:x≤9223372036854775807):IntKind.i64.wrap x=x:=by
 rw[IntKind.wrap_i64]; omega
theorem DK{s r:X}{ao:Nat}{i h m:Int}(H:Sub s ao i h m r):r.len=(h-i).toNat∧r.cap=(m-i).toNat∧(∀ b A,s.a=some ⟨b,A,none⟩→m≠i→r.a=some ⟨b,A+i.toNat*ao,none⟩):=by
 obtain⟨am,B,J,au,rfl⟩:=H;refine⟨by simp; omega,by simp; omega,fun b A aA hm=>?_⟩;have:m.toNat≠i.toNat:=by omega
 simp only[this,if_false,aA,Option.map_some,iN]
theorem nn{s:X}{ao:Nat}{i h m:Int}{aa:X→Prop}(am:0≤i)(B:i≤h)(J:h≤m)(au:m≤s.cap)(al:∀ r,Sub s ao i h m r→aa r):ex (Sub s ao i h m) aa:=⟨_,⟨am,B,J,au,rfl⟩,al _ ⟨am,B,J,au,rfl⟩⟩
theorem axR{ao:Nat}{s r:X}{xs:List S}{h:Int}(aj:∀ x,(T.cells x).length=ao)(aF:Sub s ao 0 h s.cap r)(bV:h≤xs.length)(H:E y (row T t ao s xs::c) w):r=⟨s.a,h.toNat,s.cap⟩∧E y (row T t ao r (xs.take h.toNat)::c) w:=by
 obtain⟨am,B,J,au,rfl⟩:=aF;have e:(⟨if (s.cap:Int).toNat=(0:Int).toNat then s.a else s.a.map (·.add ((0:Int).toNat*ao)),h.toNat-(0:Int).toNat,(s.cap:Int).toNat-(0:Int).toNat⟩:X)=⟨s.a,h.toNat,s.cap⟩:=by
  have:(fun x:Addr=>x.add 0)=id:=by funext x; simp[Addr.add]
  simp[this]
 refine⟨e,?_⟩;rw[e];rcases nj H with ⟨rfl,rfl,ma⟩ | ⟨b,rest,cD,dC,fx,jO,H⟩
 ·have:h.toNat=0:=by simp at bV; omega
  rw[this]; exact jW T t ao ma
 ·refine rA (rest:=(xs.drop h.toNat).flatMap T.cells++rest) cD (by simp; omega) (by simp only; omega) ?_ ?_
  ·rw[List.length_append,lR aj,List.length_drop];have e:(s.cap-h.toNat)*ao=(xs.length-h.toNat)*ao+(s.cap-s.len)*ao:=by rw[← Nat.add_mul]; congr 1; omega
   simp only;rw[e]; omega
  ·rw[← List.append_assoc,← List.flatMap_append,List.take_append_drop]; exact H
theorem Ya{ao:Nat}{s r:X}{xs:List S}{i:Int}(aj:∀ x,(T.cells x).length=ao)(aF:Sub s ao i s.len s.cap r)(H:E y (row T t ao s xs::c) w):jN T w r (xs.drop i.toNat):=by
 obtain⟨cD,dC,fx⟩:=DK aF;obtain⟨am,B,J,au,Z⟩:=aF;have aO:=ho H;refine⟨by rw[cD,List.length_drop]; omega,?_⟩;rcases nj H with ⟨rfl,rfl,H⟩ | ⟨b,rest,fj,fF,iT,kK,H⟩
 ·have ag:r.a=none:=by
   rw[Z];show (if (er.cap:Int).toNat=i.toNat then er.a else er.a.map (·.add (i.toNat*ao)))=none
   split<;>rfl
  rw[ag]; simp[BA]
 ·by_cases e:(s.cap:Int)=i
  ·have:xs.drop i.toNat=[]:=List.drop_eq_nil_of_le (by omega);rw[this];cases aA5:r.a with
   |none=>rfl
   |some a=>intro l v ax; simp at ax
  ·rw[fx b 0 fj e];intro l v ax;have aA:=H.get;rw[iN,px aA,Nat.zero_add];simp only[List.getElem?_toArray];have aC:(xs.drop i.toNat).flatMap T.cells=(xs.flatMap T.cells).drop (i.toNat*ao):=by
    have:xs.flatMap T.cells=(xs.take i.toNat).flatMap T.cells++(xs.drop i.toNat).flatMap T.cells:=by rw[← List.flatMap_append,List.take_append_drop]
    have qp:((xs.take i.toNat).flatMap T.cells).length=i.toNat*ao:=by rw[lR aj,List.length_take]; congr 1; omega
    rw[this,← qp,List.drop_left]
   rw[aC,List.getElem?_drop] at ax;have cA:=(List.getElem?_eq_some_iff.1 ax).1;rw[List.getElem?_append_left cA]; exact ax
theorem aed{ao U:Nat}{s b:X}{xs new:List S}{aa:X→World→Prop}(aj:∀ x,(T.cells x).length=ao)(H:E y (row T t ao s xs::c) w)(aO:jN T w b new)(W:s.len+new.length≤s.cap)
  (al:∀ I,E y (row T t ao ⟨s.a,s.len+new.length,s.cap⟩ (xs++new)::c) I→aa ⟨s.a,s.len+new.length,s.cap⟩ I):q1 t T ao U s b w aa:=by
 refine⟨new,aO,fun _=>?_,fun ae=>absurd W (by omega)⟩;rcases nj H with ⟨rfl,rfl,ma⟩ | ⟨dw,rest,J,au,a8,b_,H⟩
 ·have am:new=[]:=by
   cases new with
   |nil=>rfl
   |cons=>simp[er] at W
  subst am;exact al _ (jW T t ao ma)
 ·rw[J];rw[J] at al;simp only[iN,Nat.zero_add];have jQ:(xs.flatMap T.cells).length=s.len*ao:=by rw[lR aj,au]
  have m0:(new.flatMap T.cells).length=new.length*ao:=lR aj _;have re:new.length*ao≤rest.length:=Nat.le_trans (Nat.mul_le_mul_right ao (by omega)) b_;refine⟨zj H (by simp[jQ]; omega),al _ ?_⟩;have:=wU (new.flatMap T.cells) (s.len*ao) 0 _ _ H (by simp[jQ,m0]; omega)
  refine rA (rest:=rest.drop (new.length*ao)) rfl (by simp; omega) (by simpa using W) (by
   rw[List.length_drop];have e:(s.cap-(s.len+new.length))*ao=(s.cap-s.len)*ao-new.length*ao:=by rw[← Nat.sub_mul]; congr 1; omega
   simp only
   rw[e]; omega) ?_
  have e:iG (xs.flatMap T.cells++rest) (s.len*ao+0) (new.flatMap T.cells)=(xs++new).flatMap T.cells++rest.drop (new.length*ao):=by
   simp only[iG,Nat.add_zero,m0];rw[← jQ,List.take_left,List.drop_append];simp
  rw[e] at this;exact this
theorem afg{ao:Nat}{s r:X}{xs:List S}{aL:S}{m:Int}{aa:World→Prop}(aj:∀ x,(T.cells x).length=ao)(aF:Sub s ao s.len m s.cap r)(H:E y (row T t ao s xs::c) w)(al:∀ I,E y (row T t ao s xs::c) I→aa I):tf T ao aL r w aa:=by
 obtain⟨cD,dC,fx⟩:=DK aF;obtain⟨am,B,J,au,Z⟩:=aF;rcases nj H with ⟨rfl,rfl,ma⟩ | ⟨b,rest,fj,fF,iT,kK,fN⟩
 ·simp only[er] at Z; subst Z; simpa[tf] using al w H
 ·by_cases e:(s.cap:Int)=s.len
  ·have am:r.len=0:=by rw[cD]; omega
   unfold tf;split
   ·exact al w H
   ·rw[am];refine⟨fun l a7=>absurd a7 (by omega),?_⟩;simpa[mx] using al w H
  ·have ag:=fx b 0 fj e;unfold tf;rw[ag];have jQ:(xs.flatMap T.cells).length=s.len*ao:=by rw[lR aj,fF]
   have tq:((List.replicate r.len aL).flatMap T.cells).length=r.len*ao:=by rw[lR aj]; simp
   have k6:r.len*ao≤rest.length:=Nat.le_trans (Nat.mul_le_mul_right ao (by rw[cD]; omega)) kK;have gf:((s.len:Int).toNat)=s.len:=by simp
   rw[gf];refine⟨zj fN (by simp only[List.length_append,jQ]; omega),al _ ?_⟩;have:=wU ((List.replicate r.len aL).flatMap T.cells) (0+s.len*ao) 0 _ _ fN (by simp only[List.length_append,jQ,tq]; omega);refine rA (rest:=iG rest 0 ((List.replicate r.len aL).flatMap T.cells)) fj fF iT (by rw[ayM _ _ _ (by rw[tq]; omega)]; exact kK) ?_;have Jw:iG (xs.flatMap T.cells++rest) (0+s.len*ao+0) ((List.replicate r.len aL).flatMap T.cells)=xs.flatMap T.cells++iG rest 0 ((List.replicate r.len aL).flatMap T.cells):=by
    simp only[iG,Nat.add_zero,Nat.zero_add,List.take_zero,List.nil_append,tq];rw[← jQ,List.take_left,List.drop_append];simp
   rw[Jw] at this;exact this
end
end ba
namespace ba
open Go.RowKit
section
variable {y w I:World} {c bx:List bt} {b0 ai:bt} {S ev:Type} {T:a_ S} {cc:a_ ev} {t:TypeId}
theorem wH{bE:Type}{body:bE→World→(bE→World→Prop)→Prop}{s:bE}{w:World}(aG:bE→World→Prop)(qR:bE→Nat)(am:aG s w)
  (h:∀ s w,aG s w→body s w fun hJ I=>aG hJ I∧qR hJ<qR s):e7 body s w:=⟨aG,fun s _=>qR s,am,h⟩
theorem ih{ao:Nat}{s:X}{xs:List S}{i:Int}(H:E y (row T t ao s xs::c) w)(am:0≤i)(B:i<xs.length):∃ a,cz s ao i a:=by
 obtain⟨a,h,_⟩:=U1 (k:=fun _=>True) H am B fun _ _=>trivial;exact⟨a,h⟩
theorem Yq{ao:Nat}{s:X}{xs:List S}{i:Int}(H:E y (ro T s xs::c) w)(am:0≤i)(B:i<xs.length):∃ a,cz s ao i a:=by
 obtain⟨a,h,_⟩:=as2 (k:=fun _=>True) H am B fun _ _=>trivial;exact⟨a,h⟩
theorem Yu{ao:Nat}{s:X}{xs:List S}{i:Int}{a:Addr}(ag:cz s ao i a)(H:E y (row T t ao s xs::c) w):a.spot=none:=by
 obtain⟨o,W,am,B,rfl⟩:=ag;rcases nj H with ⟨rfl,rfl,H⟩ | ⟨b,rest,J,au,a8,b_,H⟩
 ·cases W
 ·rw[J] at W; injection W with W; subst W; rw[iN]
theorem Yt{ao:Nat}{s:X}{xs:List S}{i:Int}{a:Addr}(ag:cz s ao i a)(H:E y (ro T s xs::c) w):a.spot=none:=by
 obtain⟨o,W,am,B,rfl⟩:=ag;obtain⟨aG,b6,J,au | ⟨b,A,arr,pk,kt,a8,b_,hv⟩⟩:=H.q7
 ·rw[au] at J; simp at J; omega
 ·rw[a8] at W; injection W with W; subst W; rw[iN]
theorem iz{ao A:Nat}{s:X}{xs:List S}{i:Int}{a:Addr}{x:S}{N:ev}(aj:∀ x,(T.cells x).length=ao)(ag:cz s ao i a)(F:xs[i.toNat]?=some x)(aF:at_ (T.cells x) A (cc.cells N).length=cc.cells N)
  (H:E y (row T t ao s xs::c) w):M cc (a.add A) w N:=I3 (lz aj ag F H) (Yu ag H) aF
theorem ahb{ao A:Nat}{s:X}{xs:List S}{i:Int}{a:Addr}{x:S}{N:ev}(aj:∀ x,(T.cells x).length=ao)(ag:cz s ao i a)(F:xs[i.toNat]?=some x)(aF:at_ (T.cells x) A (cc.cells N).length=cc.cells N)
  (H:E y (ro T s xs::c) w):M cc (a.add A) w N:=I3 (NC aj ag F H) (Yt ag H) aF
def old(y:World):bt:=qj (fun aG=>b9.le (fun b=>y.heap[b]?) aG) (fun h k=>b9.le_trans k h)
theorem E.start(y:World):E y [old y] y:=
 ⟨rfl,rfl,rfl,Nat.le_refl _,fun b=>y.heap[b]?,fun _=>none,fun _=>.inr rfl,fun _ _ h=>h,fun _ _ h=>(by cases h),
  fun _=>none,fun _=>none,fun _=>.inl rfl,fun _ _ h=>(by cases h),fun _ _ h=>(by cases h),b9.le_refl _,trivial⟩
theorem E.below(H:E y (old y::c) w):Below y.heap.size y w:=
 ⟨H.os,H.tape,H.output,H.size,fun k al=>by
  obtain⟨aG,b6,k6⟩:=E.q7 (m:=fun h k=>b9.le_trans k h) H;have e:y.heap[k]?=some (y.heap[k]'al):=Array.getElem?_eq_getElem al;rw[e]
  exact b6 _ _ (k6 _ _ e)⟩
theorem EW(a4:List Value):at_ a4 0 a4.length=a4:=by simp[at_]
theorem ayK{a4 xs:List Value}(h:a4.length=xs.length):iG a4 0 xs=xs:=by simp[iG,← h]
theorem gV{b:Nat}{x:S}{k:S→Prop}(i:Nat)(H:E y c w)(aq:front i c=aN b (T.cells x) t::bx)(al:k x):ex (M T ⟨b,0,none⟩ w) k:=an i H aq rfl (EW _) al
theorem fb{b n:Nat}{x N:S}{k:World→Prop}(aj:∀ x,(T.cells x).length=n)(i:Nat)(H:E y c w)(aq:front i c=aN b (T.cells x) t::bx)(al:∀ I,E y (aN b (T.cells N) t::bx) I→k I):br T ⟨b,0,none⟩ N w k:=
 eg i H aq rfl (by rw[aj,aj]; omega) fun I H=>al I (by rw[ayK (by rw[aj,aj])] at H; exact H)
end
end ba
namespace ba
open Go.RowKit Go.ChangeShapes Go.WideShapes Go.Deep
section
variable {H:Type} {enc:TypeId×Value→H} {P:Program} {y:World} {base:Nat} {spare:Nat→Bool} {held:Bool} {S:Type}
def qa(enc:TypeId×Value→H)(P:Program)(y:World)(base:Nat)(spare:Nat→Bool)(held:Bool)(t:TypeId)(T:a_ S)(a2:S→Prop):Prop:=
 ∀ mU a4 x,DataW.trod enc P y base spare held mU t a4=some x→∃ N:S,a4=T.cells N∧a2 N
theorem Ww{t:TypeId}{k:IntKind}(ak:P.underlying t=some (.int k)):qa enc P y base spare held t (D k) fun n=>k.min≤n∧n≤k.max:=by
 intro mU a4 x h;obtain⟨n,rfl,_,hw⟩:=DataW.trod_int ak h;refine⟨n,rfl,?_⟩;simpa[Lit.wf] using hw
theorem avP{t:TypeId}(ak:P.underlying t=some .bool):qa enc P y base spare held t bi fun _=>True:=by
 intro mU a4 x h;obtain⟨n,rfl,_⟩:=DataW.trod_bool ak h;exact⟨n,rfl,trivial⟩
theorem aha{T:a_ S}{ao:Nat}(aj:∀ x,(T.cells x).length=ao):∀ (xs:List S) (l:Nat) (v:Value),(xs.flatMap T.cells)[l]?=some v→∃ i k x,l=i*ao+k∧k<ao∧xs[i]?=some x∧(T.cells x)[k]?=some v:=by
 intro xs;induction xs with
 |nil=>intro l v h; simp at h
 |cons x xs b8=>
  intro l v h;rw[List.flatMap_cons] at h;by_cases a7:l<ao
  ·rw[List.getElem?_append_left (by rw[aj]; exact a7)] at h;exact⟨0,l,x,by omega,a7,rfl,h⟩
  ·rw[List.getElem?_append_right (by rw[aj]; omega),aj] at h;obtain⟨i,k,N,e,al,aJ,ax⟩:=b8 _ _ h;refine⟨i+1,k,N,?_,al,aJ,ax⟩;rw[Nat.add_mul,Nat.one_mul]; omega
theorem wI{n:Nat}{p:Nat→S→Prop}(h:∀ i,i<n→∃ x,p i x):∃ xs:List S,xs.length=n∧∀ i x,xs[i]?=some x→p i x:=by
 induction n with
 |zero=>exact⟨[],rfl,fun i x h=>(by simp at h)⟩
 |succ n b8=>
  obtain⟨xs,B,J⟩:=b8 fun i aq=>h i (by omega);obtain⟨x,F⟩:=h n (by omega);refine⟨xs++[x],by simp[B],fun i N aJ=>?_⟩;by_cases aq:i<n
  ·rw[List.getElem?_append_left (by omega)] at aJ; exact J i N aJ
  ·rw[List.getElem?_append_right (by omega)] at aJ;have:i=n:=by
    rcases Nat.lt_or_ge (i-xs.length) 1 with h | h
    ·omega
    ·rw[List.getElem?_eq_none (by simpa using h)] at aJ; cases aJ
   subst this;simp[B] at aJ; subst aJ; exact F
theorem aeX{w:World}{b A:Nat}{v:Value}(h:w.cell? ⟨b,A,none⟩=some v):∃ arr t kt,w.heap[b]?=some (.cells arr t kt)∧arr[A]?=some v:=by
 unfold World.cell? at h;split at h
 ·rename_i arr t kt aA; exact⟨arr,t,kt,aA,by simpa using h⟩
 ·simp at h
theorem Wx{t e:TypeId}{T:a_ S}{a2:S→Prop}{ao:Nat}(ak:P.underlying t=some (.slice e))(W:P.cellsOf e=ao)(cb:0<ao)(aj:∀ x,(T.cells x).length=ao)(ti:qa enc P y base spare held e T a2) :
  qa enc P y base spare held t O fun s=>(s.len≤s.cap∧s.cap≤9223372036854775807)∧∃ xs,(∀ x∈xs,a2 x)∧dL T s xs fun b=>y.heap[b]?:=by
 intro mU a4 x h;rcases open_slice ak h with ⟨rfl,_⟩ | ⟨a,len,cap,m,n,ah,aAn,rfl,aA,B,J,hm,_,F⟩
 ·exact⟨⟨none,0,0⟩,rfl,⟨Nat.le_refl _,Nat.zero_le _⟩,[],(fun _ h=>by cases h),rfl,.inl rfl⟩
 ·refine⟨⟨some a,len,cap⟩,rfl,⟨B,Nat.le_trans J (Nat.le_of_ble_eq_true rfl)⟩,?_⟩;have aAZ:len≤m:=by rw[hm]; split<;>omega
  have each:∀ i,i<len→∃ N:S,a2 N∧∀ k v,(T.cells N)[k]?=some v→y.cell? (a.add (i*ao+k))=some v:=by
   intro i aq;obtain⟨Jp,cD,dC⟩:=F i (by omega);obtain⟨N,rfl,aJ⟩:=ti _ _ _ dC;rw[W] at cD;obtain⟨_,_,fx⟩:=World.cells?_some cD;refine⟨N,aJ,fun k v ax=>?_⟩;have al:=(List.getElem?_eq_some_iff.1 ax).1;rw[aj] at al;have:=fx k al;rw[ax] at this;rw[add_add] at this;exact this
  obtain⟨xs,hR,yg⟩:=wI each;refine⟨xs,?_,hR,?_⟩
  ·intro x F;obtain⟨i,aq,e⟩:=List.getElem_of_mem F;exact (yg i x (by rw[List.getElem?_eq_getElem aq,e])).1
  ·cases xs with
   |nil=>exact .inl rfl
   |cons bD aB6=>
    right;obtain⟨_,g⟩:=yg 0 bD rfl;obtain⟨b,A,ayJ⟩:=a;have cA:0<(T.cells bD).length:=by rw[aj]; exact cb
    have gr:=g 0 _ (List.getElem?_eq_getElem cA);have nD:ayJ=none:=by simpa[Addr.add] using World.cell?_spot gr
    subst nD;rw[iN] at gr;obtain⟨arr,pk,kt,aA,_⟩:=aeX gr;refine⟨b,A,arr,pk,kt,rfl,aA,fun l v a7=>?_⟩;obtain⟨i,k,N,rfl,al,aJ,ax⟩:=aha aj _ _ _ a7;have:=(yg i N aJ).2 k v ax;rw[iN] at this;rw[px aA] at this;exact this
theorem Wv{t:TypeId}{fw:Array Field}{n:Nat}{C:S→List Value}{a2:S→Prop}(ak:P.underlying t=some (.struct fw))(W:P.cellsOf t=n)
  (h:∀ a4:List Value,a4.length=n→(∀ (i off gC ao:Nat),(∃ f,fw[i]?=some f∧f.offset=off∧f.type=gC)→P.cellsOf gC=ao→∃ m x,DataW.trod enc P y base spare held m gC ((a4.drop off).take ao)=some x)→∃ N,a4=C N∧a2 N) :
  qa enc P y base spare held t (ij C) a2:=by
 intro mU a4 x F;obtain⟨xs,m,_,_,aj,sy,ap⟩:=DataW.trod_struct ak F;refine h a4 (aj.trans W) ?_;rintro i off gC ao ⟨f,x4,rfl,rfl⟩ rfl;have:=ap i f x4;have aq:i<fw.size:=(Array.getElem?_eq_some_iff.1 x4).1;exact⟨m,xs[i]'(by omega),by rw[this]; exact List.getElem?_eq_getElem _⟩
theorem r2{a4 a b:List Value}{A k:Nat}(h:(a4.drop A).take k=a)(J:a4.drop (A+k)=b):a4.drop A=a++b:=by
 rw[← h,← J,← List.drop_drop]; exact (List.take_append_drop _ _).symm
theorem SJ{a4:List Value}{n:Nat}(h:a4.length=n):a4.drop n=[]:=List.drop_eq_nil_of_le (by omega)
theorem So{S:Type}{T:a_ S}{f:FuncId}{args:List Value}{w:World}{k:S→World→Prop}(h:L P f args T w k):Calls P f args.toArray w fun e I=>∃ x,e=.returned (T.enc x)∧k x I:=
 h.mono fun e I h=>by
  cases e with
  |returned v=>obtain⟨x,rfl,h⟩:=h; exact⟨x,rfl,h⟩
  |_=>exact h.elim
theorem EU{t:TypeId}{T:a_ S}{a2:S→Prop}{v:Value}{d:DataW H}{dy:List MemPlace}(TD:qa enc P y base spare held t T a2)(h:DataW.Trod enc P y base spare held t v d dy):∃ N,v.cells.toList=T.cells N∧a2 N:=by
 obtain⟨m,hm⟩:=h;exact TD _ _ _ hm
theorem Gm{v:Value}{T:a_ S}{N:S}(h:v.cells.toList=T.cells N)(B:v.cells=#[v])(J:T.cells N=[T.enc N]):v=T.enc N:=by
 rw[B,J] at h; simpa using h
end
end ba
namespace ba
open Go.RowKit
section
variable {y w I:World} {c:List bt}
theorem E.grown(H:E y c w)(aA:Below w.heap.size w I):E y c I:=by
 obtain⟨aG,h,a,bF,bP,aj⟩:=H.mem;have old:∀ b A,w.heap[b]?=some A→I.heap[b]?=some A:=fun b A e=>by
  rw[aA.block b (Array.getElem?_eq_some_iff.1 e).1]; exact e
 exact⟨aA.os.trans H.os,aA.tape.trans H.tape,aA.output.trans H.output,Nat.le_trans H.size aA.size,aG,h,a,fun b A e=>old b A (bF b A e),fun b A e=>old b A (bP b A e),aj⟩
theorem E.made{g:Nat}{A:Obj}(H:E y c w)(aA:Below w.heap.size w I)(ae:w.heap.size≤g)(ab:I.heap[g]?=some A):E y (iO g A::c) I:=by
 have EK:=H.grown aA;obtain⟨aG,h,a,bF,bP,aj⟩:=H.mem;have b6:aG g=none:=by
  cases e:aG g with
  |none=>rfl
  |some u=>have:=(Array.getElem?_eq_some_iff.1 (bF _ _ e)).1; omega
 have bV:h g=none:=by
  cases e:h g with
  |none=>rfl
  |some u=>have:=(Array.getElem?_eq_some_iff.1 (bP _ _ e)).1; omega
 have old:∀ b A,w.heap[b]?=some A→I.heap[b]?=some A:=fun b A e=>by
  rw[aA.block b (Array.getElem?_eq_some_iff.1 e).1]; exact e
 refine⟨EK.os,EK.tape,EK.output,EK.size,aG,fun x=>if x=g then some A else h x,?_,fun b A e=>old b A (bF b A e),?_,fun x=>if x=g then some A else none,h,?_,?_,?_,?_,aj⟩
 ·intro x;by_cases e:x=g
  ·subst e; exact .inl b6
  ·simp only[e,if_false]; exact a x
 ·intro x v ax;by_cases e:x=g
  ·subst e; simp at ax; subst ax; exact ab
  ·simp only[e,if_false] at ax; exact old _ _ (bP x v ax)
 ·intro x;by_cases e:x=g
  ·right; rw[e]; exact bV
  ·left; simp[e]
 ·intro x v ax;by_cases e:x=g<;>simp[e] at ax ⊢; exact ax
 ·intro x v ax;have:x≠g:=by intro e; rw[e,bV] at ax; cases ax
  simp[this,ax]
 ·show (fun x=>if x=g then some A else none) g=some A
  simp
theorem E.ownsRow{S:Type}{T:a_ S}{e:TypeId}{ao n:Nat}{v:Value}{xs:List S}(aj:∀ x,(T.cells x).length=ao)(aO:n=xs.length)(H:E y c w)(aA:Below w.heap.size w I)
  (ab:I.ownsRow w.heap.size e ao v n (xs.flatMap T.cells)):∃ s:X,v=O.enc s∧E y (row T e ao s xs::c) I:=by
 obtain⟨hR,⟨rfl,am⟩ | ⟨g,cap,jq,rfl,ae,bV,B,J,au,a8⟩⟩:=ab
 ·have:xs=[]:=List.eq_nil_of_length_eq_zero (by omega);subst this;exact⟨er,rfl,jW T e ao (H.grown aA)⟩
 ·refine⟨⟨some ⟨g,0,none⟩,n,cap⟩,rfl,?_⟩;refine rA (rest:=jq.toList.drop (n*ao)) rfl aO B ?_ ?_
  ·simp only[List.length_drop,Array.length_toList,au,Nat.sub_mul];exact Nat.le_refl _
  ·have:=H.made aA ae bV;have aT:xs.flatMap T.cells++jq.toList.drop (n*ao)=jq.toList:=by rw[← a8,List.take_append_drop]
   rw[aT];simpa[aN] using this
end
section
variable {y w I:World} {c bx:List bt} {b0 ai:bt} {S ev:Type} {T:a_ S} {cc:a_ ev} {eK s4:b9→Prop}
def cn(c:List bt)(eK:b9→Prop):Prop:=∀ aG h,ht c aG h→eK aG
theorem cn.here{m:∀ {aG g3:b9},b9.le aG g3→eK aG→eK g3}:cn (qj eK m::c) eK:=fun _ _ ⟨_,_,_,_,_,ag,_⟩=>ag
theorem cn.tail(k:cn c eK):cn (b0::c) eK:=fun aG _ ⟨_,J,_,_,_,_,aj⟩=>k aG J aj
theorem cn.imp(k:cn c eK)(h:∀ aG,eK aG→s4 aG):cn c s4:=fun aG q aj=>h aG (k aG q aj)
theorem cn.k0(k:cn c eK):∀ bx:List bt,cn (bx++c) eK
 |[]=>k
 |_::bx=>(cn.k0 k bx).tail
theorem cn.and(k:cn c eK)(o9:cn c s4):cn c fun aG=>eK aG∧s4 aG:=fun aG q aj=>⟨k aG q aj,o9 aG q aj⟩
theorem E.vh{m:∀ {aG g3:b9},b9.le aG g3→eK aG→eK g3}(k:cn c eK)(H:E y c w):E y (qj eK m::c) w:=
 H.imp fun aG h aj=>⟨fun _=>none,h,fun _=>.inl rfl,fun _ _ h=>(by cases h),b9.le_refl _,k aG h aj,aj⟩
theorem cn.q7(k:cn c eK)(H:E y c w):∃ aG:b9,(∀ b A,aG b=some A→w.heap[b]?=some A)∧eK aG:=by
 obtain⟨aG,h,a,b,o,aj⟩:=H.mem;exact⟨aG,b,k aG h aj⟩
theorem E.ro{s:X}{xs:List S}(k:cn c (dL T s xs))(H:E y c w):E y (ro T s xs::c) w:=H.vh (m:=dL.mono) k
theorem cn.len{s:X}{xs:List S}(k:cn c (dL T s xs))(H:E y c w):s.len=xs.length:=Yr (H.ro k)
theorem cn.jI{ao:Nat}{s:X}{xs:List S}{i:Int}(k:cn c (dL T s xs))(H:E y c w)(am:0≤i)(B:i<xs.length):∃ a,cz s ao i a:=Yq (H.ro k) am B
theorem cn.rd{ao:Nat}{s:X}{xs:List S}{i:Int}{a:Addr}{x:S}(k:cn c (dL T s xs))(aj:∀ x,(T.cells x).length=ao)(ag:cz s ao i a)(F:xs[i.toNat]?=some x)(H:E y c w):mb w a (T.cells x):=NC aj ag F (H.ro k)
theorem cn.k5{ao A:Nat}{s:X}{xs:List S}{i:Int}{a:Addr}{x:S}{N:ev}(k:cn c (dL T s xs))(aj:∀ x,(T.cells x).length=ao)(ag:cz s ao i a)(F:xs[i.toNat]?=some x)(aF:at_ (T.cells x) A (cc.cells N).length=cc.cells N)
  (H:E y c w):M cc (a.add A) w N:=ahb aj ag F aF (H.ro k)
theorem cn.y2{s:X}{xs:List S}(k:cn c (dL T s xs))(H:E y c w):jN T w s xs:=I1 (H.ro k)
theorem dL.nil:dL T er []=fun _=>True:=by funext aG; simp[dL,er]
theorem cn.nil:cn c (dL T er []):=fun _ _ _=>⟨rfl,.inl rfl⟩
theorem cn.below(k:cn c fun aG=>b9.le (fun b=>y.heap[b]?) aG)(H:E y c w):Below y.heap.size y w:=E.below (H.vh (m:=fun h k=>b9.le_trans k h) k)
theorem cn.old{s:X}{xs:List S}(k:cn c fun aG=>b9.le (fun b=>y.heap[b]?) aG)(h:dL T s xs fun b=>y.heap[b]?):cn c (dL T s xs):=k.imp fun _ b6=>dL.mono b6 h
end
section
variable {y w I:World} {c bx:List bt} {b0 ai:bt} {S ev:Type} {T:a_ S} {cc:a_ ev} {t:TypeId} {eK s4:b9→Prop}
theorem AL{ao:Nat}{s:X}{xs:List S}(H:E y (row T t ao s xs::c) w):s.len≤s.cap:=by
 rcases nj H with ⟨rfl,rfl,_⟩ | ⟨b,rest,_,_,h,_⟩
 ·exact Nat.le_refl _
 ·exact h
theorem dL.sub{ao:Nat}{s r:X}{xs:List S}{i h m:Int}{aG:b9}(aj:∀ x,(T.cells x).length=ao)(aF:Sub s ao i h m r)(bV:h≤xs.length)(k:dL T s xs aG):dL T r ((xs.take h.toNat).drop i.toNat) aG:=by
 obtain⟨cD,dC,fx⟩:=DK aF;obtain⟨am,B,J,au,_⟩:=aF;have hR:((xs.take h.toNat).drop i.toNat).length=(h-i).toNat:=by rw[List.length_drop,List.length_take]; omega
 refine⟨by rw[hR,cD],?_⟩;by_cases e:m=i
 ·left;exact List.eq_nil_of_length_eq_zero (by rw[hR]; omega)
 ·rcases k.2 with rfl | ⟨b,A,arr,pk,kt,fj,fF,iT⟩
  ·left; simp
  ·right;refine⟨b,A+i.toNat*ao,arr,pk,kt,fx b A fj e,fF,fun l v ax=>?_⟩;have a0:xs.flatMap T.cells=(xs.take i.toNat).flatMap T.cells++(((xs.take h.toNat).drop i.toNat).flatMap T.cells++(xs.drop h.toNat).flatMap T.cells):=by
    have cS:xs.take i.toNat=(xs.take h.toNat).take i.toNat:=by rw[List.take_take,Nat.min_eq_left (by omega)]
    rw[cS,← List.append_assoc,← List.flatMap_append,List.take_append_drop,← List.flatMap_append,List.take_append_drop]
   have j9:((xs.take i.toNat).flatMap T.cells).length=i.toNat*ao:=by rw[lR aj,List.length_take]; congr 1; omega
   rw[Nat.add_assoc];refine iT (i.toNat*ao+l) v ?_;rw[a0,← j9,List.getElem?_append_right (by omega),Nat.add_sub_cancel_left];rw[List.getElem?_append_left (List.getElem?_eq_some_iff.1 ax).1]; exact ax
theorem cn.sub{ao:Nat}{s r:X}{xs:List S}{i h m:Int}(k:cn c (dL T s xs))(aj:∀ x,(T.cells x).length=ao)(aF:Sub s ao i h m r)(bV:h≤xs.length):cn c (dL T r ((xs.take h.toNat).drop i.toNat)):=k.imp fun _=>dL.sub aj aF bV
theorem NF{ao:Nat}{s r:X}{xs:List S}{h:Int}(aj:∀ x,(T.cells x).length=ao)(aF:Sub s ao 0 h h r)(bV:h≤xs.length)(H:E y (row T t ao s xs::c) w):r=⟨s.a,h.toNat,h.toNat⟩∧E y (row T t ao r (xs.take h.toNat)::c) w:=by
 obtain⟨am,B,J,au,rfl⟩:=aF;have e:(⟨if h.toNat=(0:Int).toNat then s.a else s.a.map (·.add ((0:Int).toNat*ao)),h.toNat-(0:Int).toNat,h.toNat-(0:Int).toNat⟩:X)=⟨s.a,h.toNat,h.toNat⟩:=by
  have:(fun x:Addr=>x.add 0)=id:=by funext x; simp[Addr.add]
  simp[this]
 refine⟨e,?_⟩;rw[e];rcases nj H with ⟨rfl,rfl,ma⟩ | ⟨b,rest,cD,dC,fx,jO,H⟩
 ·have:h.toNat=0:=by simp at bV; omega
  rw[this]; exact jW T t ao ma
 ·refine rA (rest:=(xs.drop h.toNat).flatMap T.cells++rest) cD (by simp; omega) (Nat.le_refl _) (by simp) ?_;rw[← List.append_assoc,← List.flatMap_append,List.take_append_drop]; exact H
end
end ba
namespace ba
open Go.RowKit Go.ChangeMaps
section
variable {y w I:World} {c bx:List bt} {b0 ai:bt} {S ev:Type} {T:a_ S} {cc:a_ ev} {t:TypeId} {eK s4:b9→Prop} {k:IntKind}
theorem atJ{p:Nat→Prop}:∀ n,p n→∃ m,m≤n∧p m∧∀ l,p l→m≤l:=by
 intro n;induction n using Nat.strongRecOn with
 |_ n b8=>
  intro h;by_cases o:∃ l,l<n∧p l
  ·obtain⟨l,B,J⟩:=o;obtain⟨m,au,a8,b_⟩:=b8 l B J;exact⟨m,by omega,a8,b_⟩
  ·exact⟨n,Nat.le_refl n,h,fun l a7=>Nat.le_of_not_lt fun cA=>o ⟨l,cA,a7⟩⟩
theorem Aq{bE:Type}{body:bE→World→(bE→World→Prop)→Prop}{s:bE}{w:World}(aG:Nat→bE→World→Prop)(n:Nat)(am:aG n s w)
  (h:∀ n s w,aG n s w→∀ aa,(∀ m hJ I,m<n→aG m hJ I→aa hJ I)→body s w aa):e7 body s w:=by
 classical
 have pick:∀ s w,∃ m,(∃ n,aG n s w)→aG m s w∧∀ l,aG l s w→m≤l:=by
  intro s w;by_cases o:∃ n,aG n s w
  ·obtain⟨n,aO⟩:=o;obtain⟨m,_,B,J⟩:=atJ (p:=fun n=>aG n s w) n aO;exact⟨m,fun _=>⟨B,J⟩⟩
  ·exact⟨0,fun W=>absurd W o⟩
 refine⟨fun s w=>∃ n,aG n s w,fun s w=>(pick s w).choose,⟨n,am⟩,fun s w b6=>?_⟩;obtain⟨B,J⟩:=(pick s w).choose_spec b6;refine h _ s w B _ fun m hJ I hm z2=>⟨⟨m,z2⟩,?_⟩
 exact Nat.lt_of_le_of_lt (((pick hJ I).choose_spec ⟨m,z2⟩).2 m z2) hm
structure Way{S:Type}(T:a_ S)(k:IntKind)(arr:Array MapEntry)(o:Nat)(es:List (Int×S))(left:List (Int×S))(jq:Option (Int×S))(g0:Nat)(seen:Array Nat)(dk:Nat):Prop where
 Ym:qb T k arr es
 born:oO arr o
 dup:(es.map (·.1)).Nodup
 Ud:∀ x∈arr.toList,x.born<g0
 le:g0≤dk
 Vt:g0≤o
 Cu:(leftOf arr seen).toList.map (fun e=>(e.key,e.val))=left.map fun p=>(.int k p.1,T.enc p.2)
 Vs:(left.map (·.1)).Nodup
 sub:∀ p∈left,p∈es
 aic:∀ p,jq=some p→dk=o∧∃ e∈arr.toList,∃ s,seen=Array.push s (MapEntry.born e)∧e.key=.int k p.1∧e.val=T.enc p.2
def pS(T:a_ S)(k:IntKind)(r it:Nat)(es left:List (Int×S))(jq:Option (Int×S)):bt:=
 fE fun arr=>fE fun o=>fE fun g0=>fE fun seen=>fE fun dk=>de [jT (Way T k arr o es left jq g0 seen dk),iO r (.map arr o),iO it (.mapIter (some r) g0 seen dk)]
theorem Nw{r it:Nat}{es left:List (Int×S)}{jq:Option (Int×S)}(H:E y (pS T k r it es left jq::c) w):∃ arr o g0 seen dk,Way T k arr o es left jq g0 seen dk∧E y (iO r (.map arr o)::iO it (.mapIter (some r) g0 seen dk)::c) w:=by
 obtain⟨arr,H⟩:=H.ex;obtain⟨o,H⟩:=H.ex;obtain⟨g0,H⟩:=H.ex;obtain⟨seen,H⟩:=H.ex;obtain⟨dk,H⟩:=H.ex;have H:=H.open_;obtain⟨h,H⟩:=E.sM (eK:=Way T k arr o es left jq g0 seen dk) H;exact⟨arr,o,g0,seen,dk,h,H⟩
theorem X6{r it:Nat}{es left:List (Int×S)}{jq:Option (Int×S)}{arr:Array MapEntry}{o g0 dk:Nat}{seen:Array Nat}(h:Way T k arr o es left jq g0 seen dk)(H:E y (iO r (.map arr o)::iO it (.mapIter (some r) g0 seen dk)::c) w):E y (pS T k r it es left jq::c) w:=
 E.kQ arr (E.kQ o (E.kQ g0 (E.kQ seen (E.kQ dk (E.shut (bx:=[jT _,iO r (.map arr o),iO it (.mapIter (some r) g0 seen dk)]) (E.rD h H))))))
theorem GL{r it:Nat}{es left:List (Int×S)}{jq:Option (Int×S)}(H:E y (pS T k r it es left jq::c) w):E y (bR T k r es::c) w:=by
 obtain⟨arr,o,g0,seen,dk,h,H⟩:=Nw H;exact F8 h.Ym h.born h.dup ((H.front 1).drop)
theorem atK(arr:Array MapEntry):leftOf arr #[]=arr:=by
 unfold leftOf;exact Array.filter_eq_self.2 fun x F=>by simp
theorem Yp{r:Nat}{es:List (Int×S)}{aa:Addr→World→Prop}{m:Option Nat}(i:Nat)(H:E y c w)(aq:front i c=bR T k r es::bx)(hm:m=some r)
  (al:∀ it I,E y (pS T k r it es es none::bx) I→aa ⟨it,0,none⟩ I):GQ m w aa:=by
 obtain⟨arr,o,B,u1,J,H⟩:=rp (aq▸H.front i);subst hm;refine⟨arr,o,H.get,al _ _ (X6 ⟨B,u1,J,u1.1,Nat.le_refl o,Nat.le_refl o,by rw[atK]; exact B,J,fun p aH=>aH,fun p aH=>by cases aH⟩ ?_)⟩;exact (H.alloc _).front 1
theorem ayn{r:Nat}{A u:Obj}(H:E y (iO r A::c) w):E y (iO r u::c) (setBlock w r u):=H.put rfl rfl rfl rfl
theorem atL(arr:Array MapEntry)(seen:Array Nat)(b:Nat):(leftOf arr (seen.push b)).toList=(leftOf arr seen).toList.filter fun x=>x.born != b:=by
 unfold leftOf;simp only[Array.toList_filter,List.filter_filter];refine List.filter_congr fun x _=>?_;simp only[Array.contains_push,Bool.not_or];rw[Bool.and_comm]; rfl
theorem F_{iq aAl:Type}{g:iq→aAl}:∀ {R:List iq},(R.map g).Nodup→∀ x∈R,∀ N∈R,g x=g N→x=N
 |[],_,x,F,_,_,_=>by cases F
 |aL::R,h,x,F,N,aJ,e=>by
  have eI:=List.nodup_cons.1 h;rcases List.mem_cons.1 F with yc | yc
  ·rcases List.mem_cons.1 aJ with u_ | u_
   ·rw[yc,u_]
   ·exact absurd (List.mem_map.2 ⟨N,u_,by rw[← e,yc]⟩) eI.1
  ·rcases List.mem_cons.1 aJ with u_ | u_
   ·exact absurd (List.mem_map.2 ⟨x,yc,by rw[e,u_]⟩) eI.1
   ·exact F_ eI.2 x yc N u_ e
theorem atM{arr:Array MapEntry}{seen:Array Nat}{left:List (Int×S)}{e:MapEntry}{p:Int×S}(aA:(arr.toList.map (·.born)).Nodup)(aC:(left.map (·.1)).Nodup)(aj:(leftOf arr seen).toList.map (fun e=>(e.key,e.val))=left.map fun p=>(.int k p.1,T.enc p.2))
  (he:e∈(leftOf arr seen).toList) (aT:e.key=.int k p.1) :
  (leftOf arr (seen.push e.born)).toList.map (fun e=>(e.key,e.val))=(left.filter fun q=>q.1 != p.1).map fun p=>(.int k p.1,T.enc p.2):=by
 rw[atL];have K2:(leftOf arr seen).toList.Sublist arr.toList:=by unfold leftOf; rw[Array.toList_filter]; exact List.filter_sublist
 have TK:((leftOf arr seen).toList.map (·.born)).Nodup:=aA.sublist (K2.map _);generalize (leftOf arr seen).toList=b0 at aj he TK;have n8:b0.map (·.key)=left.map fun p=>Value.int k p.1:=by
  have:=congrArg (List.map Prod.fst) aj;simpa[List.map_map,Function.comp_def] using this
 have ajK:(b0.map (·.key)).Nodup:=by
  rw[n8];have e:(left.map fun p=>Value.int k p.1)=(left.map (·.1)).map (Value.int k):=by simp
  rw[e];exact List.Pairwise.map _ (fun a b h e=>h (by injection e)) aC
 have B:(b0.filter fun x=>x.born != e.born)=b0.filter ((fun sA:Value×Value=>RowKit.intOf sA.1 != p.1)∘fun x=>(x.key,x.val)):=by
  refine List.filter_congr fun x F=>?_;have:x.key∈b0.map (·.key):=List.mem_map.2 ⟨x,F,rfl⟩;rw[n8] at this;obtain⟨q,a5,eq⟩:=List.mem_map.1 this;have a0:RowKit.intOf x.key=q.1:=by rw[← eq]; rfl
  show (x.born != e.born)=(RowKit.intOf x.key != p.1)
  rw[a0,Bool.eq_iff_iff,bne_iff_ne,bne_iff_ne];constructor
  ·intro h aj3;have:x=e:=F_ ajK x F e he (by rw[← eq,aT,aj3]);exact h (by rw[this])
  ·intro h J5;have:x=e:=F_ TK x F e he J5;rw[this,aT] at eq;injection eq with _ eq
   exact h eq
 rw[B,← List.filter_map,aj,List.filter_map];rfl
theorem V2{r it:Nat}{es left:List (Int×S)}{jq:Option (Int×S)}{aa:Option (Value×Value)→World→Prop}{a:Addr}(i:Nat)(H:E y c w)(aq:front i c=pS T k r it es left jq::bx)(ag:a=⟨it,0,none⟩)
  (am:left=[]→E y (pS T k r it es left jq::bx) w→aa none w)
  (B:∀ p∈left,∀ I,E y (pS T k r it es (left.filter fun q=>q.1 != p.1) (some p)::bx) I→aa (some (.int k p.1,T.enc p.2)) I):Ge a w aa:=by
 have ma:E y (pS T k r it es left jq::bx) w:=aq▸H.front i;obtain⟨arr,o,g0,seen,dk,h,fN⟩:=Nw ma;have aA:=fN.get;have Z:=(fN.front 1).get;refine⟨it,r,g0,seen,dk,arr,o,ag,Z,aA,h.Ud,h.le,fun cb=>am ?_ ma,fun e he eu u7=>?_⟩
 ·have aO:(leftOf arr seen).toList=[]:=by
   apply List.eq_nil_of_length_eq_zero;simpa using cb
  have aj:=h.Cu;rw[aO] at aj;cases Cu:left with
  |nil=>rfl
  |cons p q=>rw[Cu] at aj; cases aj
 ·have ail:e∈arr.toList:=by
   unfold leftOf at he;simp at he ⊢;exact he.1
  have lo:(e.key,e.val)∈(leftOf arr seen).toList.map fun e=>(e.key,e.val):=List.mem_map.2 ⟨e,he,rfl⟩;rw[h.Cu] at lo;obtain⟨p,aH,Fj⟩:=List.mem_map.1 lo;have aT:e.key=.int k p.1:=(Prod.mk.inj Fj).1.symm;have a0:e.val=T.enc p.2:=(Prod.mk.inj Fj).2.symm;rw[aT,a0];have eL:E y (iO r (.map arr o)::iO it (.mapIter (some r) g0 seen dk)::bx) eu:=by
   rcases u7 with rfl | rfl
   ·exact fN
   ·exact fN.drew
  refine B p aH _ (X6 (arr:=arr) (o:=o) (g0:=g0) (seen:=seen.push e.born) (dk:=o) ⟨h.Ym,h.born,h.dup,h.Ud,h.Vt,h.Vt,?_,?_,fun q a5=>h.sub q (List.mem_filter.1 a5).1,fun q a5=>?_⟩ ((ayn (eL.front 1)).front 1))
  ·exact atM h.born.2 h.Vs h.Cu he aT
  ·exact h.Vs.sublist (List.filter_sublist.map _)
  ·cases a5;exact⟨rfl,e,ail,seen,rfl,aT,a0⟩
theorem SY{r it:Nat}{es left:List (Int×S)}{p:Int×S}{aa:Int×S→Prop}{a:Addr}(i:Nat)(H:E y c w)(aq:front i c=pS T k r it es left (some p)::bx)(ag:a=⟨it,0,none⟩)(al:aa p):ex (mJ T k a w) aa:=by
 have ma:E y (pS T k r it es left (some p)::bx) w:=aq▸H.front i;obtain⟨arr,o,g0,seen,dk,h,fN⟩:=Nw ma;have aA:=fN.get;have Z:=(fN.front 1).get;obtain⟨rfl,e,he,s,rfl,aT,a0⟩:=h.aic p rfl;exact⟨p,⟨it,r,g0,s,arr,dk,e,ag,Z,aA,he,h.born.2,aT,a0⟩,al⟩
theorem xM{f:ev→bt}{cx cE:List ev}{e:ev}(H:E y (de ((cx++e::cE).map f)::c) w):E y (f e::de ((cx++cE).map f)::c) w:=by
 have H:=H.open_;have aH:((cx++e::cE).map f++c).Perm ((cx++cE).map f++(f e::c)):=by
  simp only[List.map_append,List.map_cons,List.append_assoc,List.cons_append];refine List.Perm.append_left _ ?_;exact (List.perm_middle (l₁:=cE.map f) (a:=f e) (l₂:=c)).symm
 exact (E.shut (H.perm aH)).front 1
theorem xL{f:ev→bt}{cx cE:List ev}{e:ev}(H:E y (f e::de ((cx++cE).map f)::c) w):E y (de ((cx++e::cE).map f)::c) w:=by
 have H:=(H.front 1).open_;have aH:((cx++cE).map f++(f e::c)).Perm ((cx++e::cE).map f++c):=by
  simp only[List.map_append,List.map_cons,List.append_assoc,List.cons_append];refine List.Perm.append_left _ ?_;exact List.perm_middle
 exact E.shut (H.perm aH)
end
end ba
namespace ba
open Go.RowKit
section
variable {y w I:World} {c bx:List bt} {b0 ai:bt} {S ev:Type} {T:a_ S} {cc:a_ ev} {t:TypeId}
theorem C7{ao U:Nat}{n:Int}{aL:S}{aa:X→World→Prop}(am:0≤n)(B:(U:Int)*n≤281474976710656)(J:n≤9223372036854775807)(H:E y c w)
  (al:∀ b I,E y (row T t ao ⟨some ⟨b,0,none⟩,n.toNat,n.toNat⟩ (List.replicate n.toNat aL)::c) I→aa ⟨some ⟨b,0,none⟩,n.toNat,n.toNat⟩ I):vn t T U aL n n w aa:=
 ⟨am,Int.le_refl _,B,J,al _ _ (rz (by simp) (H.alloc _))⟩
theorem E8{ao:Nat}{s b:X}{xs new:List S}{aa:Nat→World→Prop}(aj:∀ x,(T.cells x).length=ao)(H:E y (row T t ao s xs::c) w)(aO:jN T w b new)(he:new.length=xs.length)
  (al:∀ I,E y (row T t ao s new::c) I→aa new.length I):zP T ao s b w aa:=by
 have aF:=ho H;refine⟨new,by rw[← aO.1,aF]; omega,?_,?_⟩
 ·exact⟨rfl,aO.2⟩
 ·rcases nj H with ⟨rfl,rfl,ma⟩ | ⟨dw,rest,J,au,a8,b_,H⟩
  ·have:new=[]:=List.length_eq_zero_iff.1 he;subst this;exact al _ (jW T t ao ma)
  ·rw[J];have jQ:(xs.flatMap T.cells).length=xs.length*ao:=lR aj _;have m0:(new.flatMap T.cells).length=new.length*ao:=lR aj _;refine⟨zj H (by simp[jQ,he]),al _ ?_⟩;have:=wU (new.flatMap T.cells) 0 0 _ _ H (by simp[jQ,m0,he]);refine rA (rest:=rest) J (by rw[he]; exact au) a8 b_ ?_;have e:iG (xs.flatMap T.cells++rest) (0+0) (new.flatMap T.cells)=new.flatMap T.cells++rest:=by
    unfold iG;simp only[Nat.zero_add,Nat.add_zero,List.take_zero,List.nil_append];rw[m0,he,← jQ,List.drop_left]
   rw[e] at this;exact this
def c0(ao:Nat)(c:List bt)(T:a_ S)(s:X)(xs:List S):Prop:=∀ (y:World) (bx:List bt) (w:World),E y (bx++c) w →
 s.len=xs.length∧jN T w s xs∧∀ i:Int,0≤i→i<xs.length→∃ a,cz s ao i a∧a.spot=none∧∀ x,xs[i.toNat]?=some x→mb w a (T.cells x)
theorem c0.ro{ao:Nat}{s:X}{xs:List S}(aj:∀ x,(T.cells x).length=ao)(k:cn c (dL T s xs)):c0 ao c T s xs:=fun y bx w H=>by
 have H:=H.ro (k.k0 bx);refine⟨Yr H,I1 H,fun i am B=>?_⟩;obtain⟨a,ag⟩:=Yq (ao:=ao) (i:=i) H am B;exact⟨a,ag,Yt ag H,fun x F=>NC aj ag F H⟩
theorem c0.row{ao:Nat}{s:X}{xs:List S}(aj:∀ x,(T.cells x).length=ao)(i:Nat)(aq:front i c=row T t ao s xs::bx):c0 ao c T s xs:=fun y cx w H=>by
 have aH:(cx++c).Perm (ba.row T t ao s xs::(cx++bx)):=((JM i c).append_left cx).trans (by rw[aq]; exact List.perm_middle);have H:=H.perm aH;refine⟨ho H,xq H,fun i am B=>?_⟩;obtain⟨a,ag⟩:=ih (ao:=ao) (i:=i) H am B;exact⟨a,ag,Yu ag H,fun x F=>lz aj ag F H⟩
theorem c0.k0{ao:Nat}{s:X}{xs:List S}(k:c0 ao c T s xs)(bx:List bt):c0 ao (bx++c) T s xs:=fun y cx w H=>k y (cx++bx) w (by rw[List.append_assoc]; exact H)
theorem c0.tail{ao:Nat}{s:X}{xs:List S}(k:c0 ao c T s xs):c0 ao (b0::c) T s xs:=k.k0 [b0]
theorem c0.len{ao:Nat}{s:X}{xs:List S}(k:c0 ao c T s xs)(H:E y c w):s.len=xs.length:=(k y [] w H).1
theorem c0.jI{ao:Nat}{s:X}{xs:List S}{i:Int}(k:c0 ao c T s xs)(H:E y c w)(am:0≤i)(B:i<xs.length):∃ a,cz s ao i a:=by
 obtain⟨a,h,_⟩:=(k y [] w H).2.2 i am B; exact⟨a,h⟩
theorem U0{ao:Nat}{s:X}{i:Int}{a b:Addr}(h:cz s ao i a)(k:cz s ao i b):a=b:=by
 obtain⟨o,W,_,_,rfl⟩:=h;obtain⟨d,aC,_,_,rfl⟩:=k;rw[W] at aC; injection aC with aC; rw[aC]
theorem c0.rd{ao:Nat}{s:X}{xs:List S}{i:Int}{a:Addr}{x:S}(k:c0 ao c T s xs)(ag:cz s ao i a)(F:xs[i.toNat]?=some x)(H:E y c w):mb w a (T.cells x):=by
 have cA:=(List.getElem?_eq_some_iff.1 F).1;have am:0≤i:=by obtain⟨_,_,h,_⟩:=ag; exact h
 obtain⟨b,aA,_,h⟩:=(k y [] w H).2.2 i am (by omega);rw[U0 ag aA]; exact h x F
theorem c0.k5{ao A:Nat}{s:X}{xs:List S}{i:Int}{a:Addr}{x:S}{N:ev}(k:c0 ao c T s xs)(ag:cz s ao i a)(F:xs[i.toNat]?=some x)(aF:at_ (T.cells x) A (cc.cells N).length=cc.cells N)
  (H:E y c w):M cc (a.add A) w N:=by
 have cA:=(List.getElem?_eq_some_iff.1 F).1;have am:0≤i:=by obtain⟨_,_,h,_⟩:=ag; exact h
 obtain⟨b,aA,nD,h⟩:=(k y [] w H).2.2 i am (by omega);rw[U0 ag aA]; exact I3 (h x F) nD aF
theorem c0.y2{ao:Nat}{s:X}{xs:List S}(k:c0 ao c T s xs)(H:E y c w):jN T w s xs:=(k y [] w H).2.1
theorem add_add{a:Addr}(h:a.spot=none)(m n:Nat):(a.add m).add n=a.add (m+n):=by
 obtain⟨b,A,s⟩:=a;simp only at h;subst h;rw[iN,iN,iN,Nat.add_assoc]
end
section
variable {y w I:World} {c bx:List bt} {S ev:Type} {T:a_ S} {cc:a_ ev} {t:TypeId}
theorem ayN{b0 o ah aL:List Value}{A:Nat}(h:A+aL.length≤o.length):iG (b0++(o++ah)) (b0.length+A) aL=b0++(iG o A aL++ah):=by
 unfold iG;rw[List.take_length_add_append,Nat.add_assoc,List.drop_length_add_append,List.take_append_of_le_length (by omega),List.drop_append_of_le_length (by omega)];simp
theorem y9{ao A:Nat}{s:X}{xs:List S}{i:Int}{a:Addr}{x N:S}{aL:ev}{aa:World→Prop}(aj:∀ x,(T.cells x).length=ao)(ag:cz s ao i a)(F:xs[i.toNat]?=some x)(aJ:iG (T.cells x) A (cc.cells aL)=T.cells N)(ab:A+(cc.cells aL).length≤ao)
  (H:E y (row T t ao s xs::c) w) (al:∀ I,E y (row T t ao s (xs.set i.toNat N)::c) I→aa I):br cc (a.add A) aL w aa:=by
 obtain⟨o,W,am,B,rfl⟩:=ag;rcases nj H with ⟨rfl,rfl,H⟩ | ⟨b,rest,J,au,a8,b_,H⟩
 ·cases W
 ·rw[J] at W; injection W with W; subst W
  have aq:i.toNat<xs.length:=by omega
  obtain⟨_,rfl⟩:=List.getElem?_eq_some_iff.1 F;have Ue:((xs.take i.toNat).flatMap T.cells).length=i.toNat*ao:=by rw[lR aj,List.length_take]; congr 1; omega
  have aC:xs.drop i.toNat=xs[i.toNat]::xs.drop (i.toNat+1):=List.drop_eq_getElem_cons aq;have yg:xs.flatMap T.cells++rest=(xs.take i.toNat).flatMap T.cells++(T.cells xs[i.toNat]++((xs.drop (i.toNat+1)).flatMap T.cells++rest)):=by
   have:xs.flatMap T.cells=(xs.take i.toNat).flatMap T.cells++(xs.drop i.toNat).flatMap T.cells:=by rw[← List.flatMap_append,List.take_append_drop]
   rw[this,aC,List.flatMap_cons]; simp only[List.append_assoc]
  have ale:(xs.set i.toNat N).flatMap T.cells++rest=(xs.take i.toNat).flatMap T.cells++(T.cells N++((xs.drop (i.toNat+1)).flatMap T.cells++rest)):=by
   have:xs.set i.toNat N=xs.take i.toNat++N::xs.drop (i.toNat+1):=by rw[List.set_eq_take_append_cons_drop,if_pos aq]
   rw[this,List.flatMap_append,List.flatMap_cons]; simp only[List.append_assoc]
  rw[iN,iN];rw[yg] at H;have x2:=aj xs[i.toNat];have k6:0+i.toNat*ao+A+(cc.cells aL).length≤((xs.take i.toNat).flatMap T.cells++(T.cells xs[i.toNat]++((xs.drop (i.toNat+1)).flatMap T.cells++rest))).length:=by
   simp only[List.length_append,Ue,x2]; omega
  refine⟨zj H k6,al _ ?_⟩;have hv:=wU (cc.cells aL) (0+i.toNat*ao+A) 0 _ _ H (by simpa using k6);refine rA J (by simpa using au) a8 b_ ?_;rw[ale,← aJ];have e:=ayN (b0:=(xs.take i.toNat).flatMap T.cells) (o:=T.cells xs[i.toNat]) (ah:=(xs.drop (i.toNat+1)).flatMap T.cells++rest) (aL:=cc.cells aL) (A:=A) (by omega);rw[Ue] at e;rw[show 0+i.toNat*ao+A+0=i.toNat*ao+A from by omega,e] at hv;exact hv
end
theorem Hw(n:Int):IntKind.u8.wrap n=n%256:=by simp[IntKind.wrap,IntKind.bits,IntKind.signed]
theorem lF(n:Int):IntKind.u64.wrap n=n%18446744073709551616:=by simp[IntKind.wrap,IntKind.bits,IntKind.signed]
theorem oK(n:Int):IntKind.i64.wrap n=(n+9223372036854775808)%18446744073709551616-9223372036854775808:=by
 rw[IntKind.wrap_i64]
theorem lE(n:Int)(am:0≤n)(B:n<2^64):IntKind.u64.wrap n=n:=by rw[lF]; omega
theorem azQ(n:Int)(am:0≤n)(B:n<2^8):IntKind.u8.wrap n=n:=by rw[Hw]; omega
theorem avT(k:IntKind)(l:Nat)(a7:l≤k.bits)(al:∀ n:Int,0≤n→n<2^l→k.wrap n=n)(i:Nat)
  (N x:Int) (Up:0≤N) (aJ:N<2^i) (Uq:N<2^l) (Un:0≤x) (F:x%2^i=0) (Uo:x<2^l):bits .or k N x=N+x:=by
 have h:=bits_join k l a7 al i x N Un F Uo Up aJ Uq;obtain⟨a,rfl⟩:=Int.eq_ofNat_of_zero_le Un;obtain⟨b,rfl⟩:=Int.eq_ofNat_of_zero_le Up;have ag:a<2^l:=by exact_mod_cast Uo
 have aA:b<2^l:=by exact_mod_cast Uq
 rw[(bits_nat k l a7 al a b ag aA).2] at h;rw[(bits_nat k l a7 al b a aA ag).2,Nat.or_comm,h];omega
theorem ad9{x:Int}(am:0≤x)(B:x<256):bits .and .u8 x 127=x%128:=bits_mask .u8 8 (by decide) azQ 7 (by decide) x am B
theorem ad8{x:Int}(am:0≤x)(B:x<18446744073709551616):bits .and .u64 x 1=x%2:=bits_mask .u64 64 (by decide) lE 1 (by decide) x am B
theorem avS{x:Int}(am:0≤x)(B:x<256):bits .or .u8 x 128=128+x%128:=by
 obtain⟨a,rfl⟩:=Int.eq_ofNat_of_zero_le am;have ag:a<256:=by omega
 have key:∀ a:Fin 256,bits .or .u8 ((a.1:Nat):Int) 128=128+((a.1:Nat):Int)%128:=by decide +kernel
 exact key ⟨a,ag⟩
theorem Gf(a:Nat)(h:a<18446744073709551616):(BitVec.ofInt 64 (a:Int)).toNat=a:=by
 rw[BitVec.ofInt_natCast,BitVec.toNat_ofNat]; exact Nat.mod_eq_of_lt (by omega)
theorem az3{x:Int}(am:0≤x)(B:x<18446744073709551616):bits .xor .u64 x 0=x:=by
 obtain⟨a,rfl⟩:=Int.eq_ofNat_of_zero_le am;show IntKind.u64.wrap ((BitVec.ofInt 64 (a:Int) ^^^ BitVec.ofInt 64 0).toNat:Int)=_
 have e:BitVec.ofInt 64 0=0#64:=rfl;rw[e,BitVec.xor_zero,Gf a (by omega),lF]; omega
theorem ZY{x:Int}(am:0≤x)(B:x<18446744073709551616):bits .xor .u64 x 18446744073709551615=18446744073709551615-x:=by
 obtain⟨a,rfl⟩:=Int.eq_ofNat_of_zero_le am;show IntKind.u64.wrap ((BitVec.ofInt 64 (a:Int) ^^^ BitVec.ofInt 64 18446744073709551615).toNat:Int)=_
 have e:BitVec.ofInt 64 18446744073709551615=BitVec.allOnes 64:=by decide
 rw[e,BitVec.xor_allOnes,BitVec.toNat_not,Gf a (by omega),lF]; omega
theorem az2{x:Int}(am:0≤x)(B:x<9223372036854775808):bits .xor .i64 x 0=x:=by
 obtain⟨a,rfl⟩:=Int.eq_ofNat_of_zero_le am;show IntKind.i64.wrap ((BitVec.ofInt 64 (a:Int) ^^^ BitVec.ofInt 64 0).toNat:Int)=_
 have e:BitVec.ofInt 64 0=0#64:=rfl;rw[e,BitVec.xor_zero,Gf a (by omega),oK]; omega
theorem az4{x:Int}(am:0≤x)(B:x<9223372036854775808):bits .xor .i64 x (-1)=-x-1:=by
 obtain⟨a,rfl⟩:=Int.eq_ofNat_of_zero_le am;show IntKind.i64.wrap ((BitVec.ofInt 64 (a:Int) ^^^ BitVec.ofInt 64 (-1)).toNat:Int)=_
 have e:BitVec.ofInt 64 (-1)=BitVec.allOnes 64:=by decide
 rw[e,BitVec.xor_allOnes,BitVec.toNat_not,Gf a (by omega),oK]; omega
section
variable {y w I:World} {c bx:List bt} {S:Type} {T:a_ S} {t e:TypeId}
theorem aec{s:X}{r:List UInt8}{xs:List Int}{k:X→World→Prop}(i:Nat)(H:E y c w)(aq:front i c=row (D .u8) e 1 s xs::bx)(aA:xs.length+r.length≤140737488355328)
  (al:∀ q I,E y (row (D .u8) e 1 q (xs++ai r)::bx) I→k q I):Jf e s r w k:=
 Jg (fun _=>rfl) (aq▸H.front i) (by rw[fr]; omega) al
theorem R9{s:X}{r:List UInt8}{k:List UInt8→Prop}(h:jN (D .u8) w s (ai r))(al:k r):ex (gi s w) k:=⟨r,h,al⟩
theorem pU{b my:Int}{k:Int→Prop}(h:0≤b)(al:k my):ex (hB b my) k:=⟨my,⟨h,rfl⟩,al⟩
theorem axS{b:Nat}{arr:Array Value}{kt:Nat×Nat}(H:E y (iO b (.cells arr t kt)::c) w){s:X}{xs:List S}(ag:s.a=some ⟨b,0,none⟩)(aj:xs.length=s.len)(F:∀ (l:Nat) (v:Value),(xs.flatMap T.cells)[l]?=some v→arr[l]?=some v):E y (ro T s xs::c) w:=
 E.Lq (fun aG b6=>⟨aj,.inr ⟨b,0,arr,t,kt,ag,b6,fun l v ax=>by rw[Nat.zero_add]; exact F l v ax⟩⟩) H.stay
theorem ax7{s:List UInt8}{k:X→World→Prop}(H:E y c w)(al:∀ r I,r.len=s.length→r.len≤r.cap→E y (ro (D .u8) r (ai s)::c) I→k r I):NH e s w k:=by
 refine al _ _ rfl (grownCap_ge w s.length 0 e) (axS ((H.drew).alloc _) rfl (fr s) ?_);intro l v ax;rw[Fq] at ax;have cA:=(List.getElem?_eq_some_iff.1 ax).1;have KH:l<s.length:=by simpa[ai] using cA
 simp only[bytesRow];rw[Array.getElem?_append_left (by simpa using KH)];simp[ai,KH] at ax;simp[KH,ax]
theorem hU{bE:Type}{body:bE→World→(bE→World→Prop)→Prop}{s:bE}{w:World}(aG:bE→World→Prop)(qR:bE→Nat)(am:aG s w)
  (h:∀ s w,aG s w→∀ aa:bE→World→Prop,(∀ hJ I,aG hJ I→qR hJ<qR s→aa hJ I)→body s w aa):e7 body s w:=
 wH aG qR am fun s w b6=>h s w b6 _ fun hJ I B J=>⟨B,J⟩
end
end ba
end Go.Proofs.YtnmmjkjkkmbhiaaGreat
