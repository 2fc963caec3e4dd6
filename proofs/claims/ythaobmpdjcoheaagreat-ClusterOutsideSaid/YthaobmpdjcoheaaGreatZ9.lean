/- Own texts of this claim, part 9: short, merged. -/
import Derived.Test.YthaobmpdjcoheaaGreatZ1
set_option maxRecDepth 100000
set_option maxHeartbeats 40000000
set_option linter.defProp false
set_option linter.unusedVariables false
set_option linter.unusedSimpArgs false
namespace Go.Proofs.YthaobmpdjcoheaaGreat
namespace bj
def US(dc:aN)(bt:Int)(jv:iO)(w:World)(j:Int→World→Prop):Prop:=bQ 60 hd jv w fun a9 bc=>M Pg 210 [.pointer (dc),.int .i64 (bt)] (B .i64) bc fun bU b3=>if (bU != (0:Int))=true then (j bU b3) else (ex (L hd a9 b3) fun cH=>M Pg 216 [.pointer (dc),hd.enc (cH)] (bB (B .i64) (B .i64)) b3 fun a6 b6=>if (a6.2 != (0:Int))=true then (j a6.2 b6) else (dw b6 fun cV=>ex (bM dc) fun fZ=>ex (L eC (fZ.add 3) cV) fun dP=>ex (L (B .i64) (a9.add 0) cV) fun eO=>ex (L hd a9 cV) fun ep=>qt iQ .i64 dP eO (⟨ep,bt,a6.1⟩:rT) cV fun dV=>dw dV fun db=>ex (L eC (fZ.add 4) db) fun cY=>ex (L (B .i64) (a9.add 1) db) fun hY=>ex (L (B .i64) (a9.add 0) db) fun gq=>qt (B .i64) .i64 cY hY gq db fun eK=>dw eK fun fa=>ex (L eC (fZ.add 5) fa) fun mZ=>ex (L (B .i64) (a9.add 0) fa) fun mi=>qt lV .i64 mZ mi (⟨(1:Int),bt⟩:qZ) fa fun iK=>M Pg 215 [.pointer (dc),.int .i64 (bt)] eh iK fun fk fe=>j (0:Int) fe))
theorem ahp{dc bt jv w j}(h:US dc bt jv w j):M Pg 170 [.pointer dc,.int .i64 bt,hd.enc jv] (B .i64) w j:=by
 have gC:=eI 8 (dJ [0,1,2,4,7,8,3,5,6,9,10] .l)
 have r0:=eI 9 (dJ [0,1,2,4,6,3,5,7,8] .l)
 have DR:=eI 10 (dJ [0,1,2,4,6,7,3,5,8] .l)
 exact bu 54 Tryz.func170 rfl rfl bw
def xC(bV:aN)(rA:Int)(amI:Addr)(aHw:Addr)(aFk:Addr)(b3:World)(j:cw→World→Prop):Prop:=if (rA==(3:Int))=true then (ex (bM bV) fun cj=>ex (L aE (cj.add 1) b3) fun cH=>j (cw.mk (.func 220) (List.toArray [.pointer (cH)]) (List.toArray [])) b3) else (if (rA==(4:Int))=true then (j (cw.mk (.func 221) (List.toArray []) (List.toArray [.pointer (some amI)])) b3) else (if (rA==(5:Int))=true then (j (cw.mk (.func 222) (List.toArray []) (List.toArray [.pointer (some aHw)])) b3) else (j (cw.mk (.func 223) (List.toArray []) (List.toArray [.pointer (some aFk)])) b3)))
def UT(bV:aN)(rA:Int)(w:World)(j:cw→World→Prop):Prop:=dw w fun cC=>ex (bM bV) fun e1=>ex (L aE (e1.add 1) cC) fun eO=>ex (L aE (e1.add 1) cC) fun ep=>ex (L aE (e1.add 1) cC) fun bL=>sT (bQ 107 gw cw.nil cC fun kE gb=>sT (bQ 143 gw cw.nil gb fun je eJ=>bQ 143 gw cw.nil eJ fun hf fa=>bi gw kE (cw.mk (.func 217) (List.toArray [.pointer (eO)]) (List.toArray [])) fa fun eD=>bG ((L aE (e1.add 1) eD) ep)<|bG ((L aE (e1.add 1) eD) bL)<|bi gw je (cw.mk (.func 218) (List.toArray [.pointer (ep)]) (List.toArray [])) eD fun fe=>bG ((L aE (e1.add 1) fe) bL)<|bi gw hf (cw.mk (.func 219) (List.toArray [.pointer (bL)]) (List.toArray [])) fe fun gh=>xC bV rA kE je hf gh j) (bQ 143 gw cw.nil gb fun wy gV=>bQ 143 gw cw.nil gV fun Bu g6=>bi gw kE (cw.mk (.func 217) (List.toArray [.pointer (eO)]) (List.toArray [])) g6 fun iL=>bG ((L aE (e1.add 1) iL) ep)<|bG ((L aE (e1.add 1) iL) bL)<|bi gw Bu (cw.mk (.func 218) (List.toArray [.pointer (ep)]) (List.toArray [])) iL fun lO=>bG ((L aE (e1.add 1) lO) bL)<|bi gw wy (cw.mk (.func 219) (List.toArray [.pointer (bL)]) (List.toArray [])) lO fun mA=>xC bV rA kE Bu wy mA j)) (sT (bQ 143 gw cw.nil cC fun pa k6=>sT (bQ 107 gw cw.nil k6 fun uW v6=>bQ 143 gw cw.nil v6 fun xR uH=>bi gw uW (cw.mk (.func 217) (List.toArray [.pointer (eO)]) (List.toArray [])) uH fun ou=>bG ((L aE (e1.add 1) ou) ep)<|bG ((L aE (e1.add 1) ou) bL)<|bi gw pa (cw.mk (.func 218) (List.toArray [.pointer (ep)]) (List.toArray [])) ou fun p_=>bG ((L aE (e1.add 1) p_) bL)<|bi gw xR (cw.mk (.func 219) (List.toArray [.pointer (bL)]) (List.toArray [])) p_ fun qa=>xC bV rA uW pa xR qa j) (bQ 143 gw cw.nil k6 fun XA v7=>bQ 107 gw cw.nil v7 fun Ol To=>bi gw Ol (cw.mk (.func 217) (List.toArray [.pointer (eO)]) (List.toArray [])) To fun sH=>bG ((L aE (e1.add 1) sH) ep)<|bG ((L aE (e1.add 1) sH) bL)<|bi gw pa (cw.mk (.func 218) (List.toArray [.pointer (ep)]) (List.toArray [])) sH fun tv=>bG ((L aE (e1.add 1) tv) bL)<|bi gw XA (cw.mk (.func 219) (List.toArray [.pointer (bL)]) (List.toArray [])) tv fun aI4=>xC bV rA Ol pa XA aI4 j)) (bQ 143 gw cw.nil cC fun Jn xu=>sT (bQ 107 gw cw.nil xu fun DD xv=>bQ 143 gw cw.nil xv fun XC CW=>bi gw DD (cw.mk (.func 217) (List.toArray [.pointer (eO)]) (List.toArray [])) CW fun AU=>bG ((L aE (e1.add 1) AU) ep)<|bG ((L aE (e1.add 1) AU) bL)<|bi gw XC (cw.mk (.func 218) (List.toArray [.pointer (ep)]) (List.toArray [])) AU fun II=>bG ((L aE (e1.add 1) II) bL)<|bi gw Jn (cw.mk (.func 219) (List.toArray [.pointer (bL)]) (List.toArray [])) II fun IJ=>xC bV rA DD XC Jn IJ j) (bQ 143 gw cw.nil xu fun XD aI5=>bQ 107 gw cw.nil aI5 fun XE aI6=>bi gw XE (cw.mk (.func 217) (List.toArray [.pointer (eO)]) (List.toArray [])) aI6 fun Tq=>bG ((L aE (e1.add 1) Tq) ep)<|bG ((L aE (e1.add 1) Tq) bL)<|bi gw XD (cw.mk (.func 218) (List.toArray [.pointer (ep)]) (List.toArray [])) Tq fun af4=>bG ((L aE (e1.add 1) af4) bL)<|bi gw Jn (cw.mk (.func 219) (List.toArray [.pointer (bL)]) (List.toArray [])) af4 fun CY=>xC bV rA XE XD Jn CY j)))
theorem ahq{bV rA w j}(h:UT bV rA w j):M Pg 171 [.pointer bV,.int .i64 rA] gw w j:=by
 have gC:=eI 2 (dJ [0,1,2,5,6,7,10,11,12,3,4,8,9,13,14] (.d 15 16 17 (.e 16 17 (dJ [17,18,19,20] .l) (dJ [16,18,19,20] .l)) (.e 15 17 (dJ [17,18,19,20] .l) (dJ [15,18,19,20] .l)) (.e 15 16 (dJ [16,18,19,20] .l) (dJ [15,18,19,20] .l))))
 have jt:=iz (bC:=Addr×Addr×Addr) 3 (fun s w=>xC bV rA s.1 s.2.1 s.2.2 w j) (fun g s=>ae (ae (ae (ae (ae g 0 (.pointer bV)) 1 (.int .i64 rA)) 5 (.pointer (some s.1))) 6 (.pointer (some s.2.1))) 7 (.pointer (some s.2.2)))
 exact bu 38 Tryz.func171 rfl rfl bw
def UU(bV:aN)(hg:Int)(w:World)(j:Int→World→Prop):Prop:=M Pg 224 [.int .i64 (hg)] bo w fun bq bl=>if (!bq)=true then (j (120:Int) bl) else (ex (bM bV) fun b1=>ex (L (B .i64) (b1.add 1) bl) fun b_=>if (decide (hg>b_))=true then (j (128:Int) bl) else (ex (L (B .i64) (b1.add 2) bl) fun bS=>if (decide (hg<bS))=true then (j (126:Int) bl) else (j (0:Int) bl)))
theorem ahr{bV hg w j}(h:UU bV hg w j):M Pg 172 [.pointer bV,.int .i64 hg] (B .i64) w j:=
 bu 23 Tryz.func172 rfl rfl bw
def UV(sd:(Option Nat))(w:World)(j:cw→World→Prop):Prop:=bQ 216 eC sd w fun a1 bl=>j (cw.mk (.func 225) (List.toArray []) (List.toArray [.pointer (some a1)])) bl
theorem ahs{sd w j}(h:UV sd w j):M Pg 173 [.map sd] gw w j:=
 bu 4 Tryz.func173 rfl rfl bw
def UW(aO:aN)(hg:Int)(w:World)(j:(eV×Int)→World→Prop):Prop:=bQ 292 dR kD w fun aA aY=>if ((decide (hg<(0:Int)))||(decide (hg>(1125899906842624:Int))))=true then (bi dR aA (⟨(0:Int),(0:Int)⟩:eV) aY fun bc=>ex (L dR aA bc) fun b_=>j (b_,(110:Int)) bc) else (ex (bM aO) fun cj=>ex (L (B .i64) (cj.add 1) aY) fun cH=>if (decide (hg<cH))=true then (bi dR aA (⟨(0:Int),(0:Int)⟩:eV) aY fun b6=>ex (L dR aA b6) fun dD=>j (dD,(113:Int)) b6) else (M Pg 226 [.pointer (aO),.int .i64 (hg)] (B .i64) aY fun bs cV=>if (bs==(0:Int))=true then (bi dR aA (⟨(0:Int),(0:Int)⟩:eV) cV fun cA=>ex (L dR aA cA) fun eO=>j (eO,(114:Int)) cA) else (ex (L X (cj.add 0) cV) fun ep=>ex (cT ep 2 (IntKind.i64.wrap (bs-(1:Int)))) fun iR=>ex (L dR iR cV) fun j2=>bi dR aA j2 cV fun gb=>ex (L dR aA gb) fun hY=>j (hY,(0:Int)) gb)))
theorem aht{aO hg w j}(h:UW aO hg w j):M Pg 174 [.pointer aO,.int .i64 hg] (bB dR (B .i64)) w j:=
 bu 37 Tryz.func174 rfl rfl bw
def M3(bV:af)(jD:cw)(b5:Int)(aY:World)(gN:Int→World→Prop)(j:Int→World→Prop):Prop:=if (decide (b5<(bV.len:Int)))=true then (ex (cT bV 2 b5) fun b2=>ex (L qj b2 aY) fun bS=>tU Pg jD [qj.enc (bS)] bo aY fun dB bJ=>if dB=true then (j b5 bJ) else (gN ((IntKind.i64.wrap (b5+(1:Int)))) bJ)) else (j (-1:Int) aY)
def UX(bV:af)(jD:cw)(w:World)(j:Int→World→Prop):Prop:=fh (fun (s:Int) w ab=>M3 bV jD s w ab j) ((0:Int)) w
theorem ahu{bV jD w j}(h:UX bV jD w j):M Pg 175 [X.enc bV,jD.enc] (B .i64) w j:=by
 have ju:=hJ (bC:=Int) 3 (fun s w ab=>M3 bV jD s w ab j) (fun g s=>ae (ae (ae (ae g 0 (X.enc bV)) 1 (jD.enc)) 7 (.int .i64 ((bV.len:Int)))) 8 (.int .i64 s))
 exact bu 19 Tryz.func175 rfl rfl bw
def FA(dm:aN)(b0:Int)(x1:cw)(bc:World)(j:Int→World→Prop):Prop:=ex (bM dm) fun b2=>ex (L (B .i64) (b2.add 1) bc) fun bS=>bi (B .i64) (b2.add 1) (IntKind.i64.wrap (bS+(1:Int))) bc fun bJ=>ex (L X (b2.add 0) bJ) fun cJ=>ex (cT cJ 2 b0) fun e0=>tU Pg x1 [.pointer (some e0)] eh bJ fun bs cV=>j (0:Int) cV
def UY(dm:aN)(b0:Int)(L5:Int)(x1:cw)(w:World)(j:Int→World→Prop):Prop:=M Pg 183 [.pointer (dm),.int .i64 (b0)] bo w fun dt cA=>if (!dt)=true then (j (70:Int) cA) else (ex (bM dm) fun gJ=>ex (L bo (gJ.add 2) cA) fun bL=>if bL=true then (j (71:Int) cA) else (if (decide (L5>(4194304:Int)))=true then (j (72:Int) cA) else (ex (L (B .i64) (gJ.add 3) cA) fun j2=>if (j2==(1:Int))=true then (ex (L X (gJ.add 4) cA) fun cY=>M Pg 103 [.pointer (dm),X.enc (cY)] eh cA fun mR ev=>j (71:Int) ev) else (ex (L (B .i64) (gJ.add 3) cA) fun k8=>if (decide (k8>(1:Int)))=true then (ex (L (B .i64) (gJ.add 3) cA) fun gW=>bi (B .i64) (gJ.add 3) (IntKind.i64.wrap (gW-(1:Int))) cA fun eD=>FA dm b0 x1 eD j) else (FA dm b0 x1 cA j)))))
theorem ahv{dm b0 L5 x1 w j}(h:UY dm b0 L5 x1 w j):M Pg 177 [.pointer dm,.int .i64 b0,.int .i64 L5,x1.enc] (B .i64) w j:=by
 have jt:=iz (bC:=Unit) 13 (fun s w=>FA dm b0 x1 w j) (fun g s=>ae (ae (ae g 0 (.pointer dm)) 1 (.int .i64 b0)) 3 (x1.enc))
 exact bu 62 Tryz.func177 rfl rfl bw
def UZ(gm:aN)(w:World)(j:Unit→World→Prop):Prop:=ex (bM gm) fun a1=>ex (L X (a1.add 0) w) fun ej=>bi (B .i64) (a1.add 1) (ej.len:Int) w fun aY=>j () aY
theorem ahw{gm w j}(h:UZ gm w j):M Pg 178 [.pointer gm] eh w j:=
 bu 10 Tryz.func178 rfl rfl bw
def U0(fP:Int)(w:World)(j:Bool→World→Prop):Prop:=j ((decide (fP≥(1:Int)))&&(decide (fP≤(1125899906842624:Int)))) w
theorem ahx{fP w j}(h:U0 fP w j):M Pg 179 [.int .i64 fP] bo w j:=
 bu 9 Tryz.func179 rfl rfl bw
def U2(ds:aN)(w:World)(j:Bool→World→Prop):Prop:=ex (bM ds) fun a1=>ex (oA (a1.add 4) 2 3 (0:Int)) fun aA=>ex (L bo (aA.add 1) w) fun dk=>ex (fun x=>dk=true→(bM ds) x) fun b1=>ex (fun x=>dk=true→(oA (b1.add 4) 2 3 (1:Int)) x) fun b2=>ex (fun x=>dk=true→(L bo (b2.add 1) w) x) fun bS=>j (dk&&bS) w
theorem ahz{ds w j}(h:U2 ds w j):M Pg 180 [.pointer ds] bo w j:=
 bu 17 Tryz.func180 rfl rfl bw
def M5(iq:Nat)(w:World)(j:Nat→World→Prop):Prop:=j (Int.toNat (bits .andNot .u64 (iq:Int) (9223372036854775808:Int))) w
theorem U3{iq w j}(h:M5 iq w j):M Pg 181 [.float .f64 iq] g4 w j:=
 bu 7 Tryz.func181 rfl rfl bw
def U4(w:World)(j:aN→World→Prop):Prop:=ur w fun j_ dL=>bQ 218 qi (⟨(some j_),(0:Int),(0:Int)⟩:xL) dL fun aA aY=>j (some aA) aY
theorem ahA{w j}(h:U4 w j):M Pg 182 [] aE w j:=
 bu 4 Tryz.func182 rfl rfl bw
def U5(dm:aN)(b0:Int)(w:World)(j:Bool→World→Prop):Prop:=ex (fun x=>(decide (b0≥(0:Int)))=true→(bM dm) x) fun aA=>ex (fun x=>(decide (b0≥(0:Int)))=true→(L X (aA.add 0) w) x) fun dk=>j ((decide (b0≥(0:Int)))&&(decide (b0<(dk.len:Int)))) w
theorem ahB{dm b0 w j}(h:U5 dm b0 w j):M Pg 183 [.pointer dm,.int .i64 b0] bo w j:=
 bu 16 Tryz.func183 rfl rfl bw
def U6(e2:af)(w:World)(j:(af×Int×Int)→World→Prop):Prop:=if (decide ((e2.len:Int)<(8:Int)))=true then (j ((⟨none,0,0⟩:af),(0:Int),(31:Int)) w) else (M Pg 228 [X.enc (e2)] (B .u32) w fun gv cG=>if (decide ((IntKind.i64.wrap gv)>(65536:Int)))=true then (j ((⟨none,0,0⟩:af),(0:Int),(30:Int)) cG) else (if (decide ((IntKind.i64.wrap gv)>(IntKind.i64.wrap ((e2.len:Int)-(8:Int)))))=true then (j ((⟨none,0,0⟩:af),(0:Int),(31:Int)) cG) else (dw cG fun aY=>ex (Sub e2 1 0 (4:Int) ((e2).cap:Int)) fun aeN=>ex (Sub e2 1 (8:Int) (IntKind.i64.wrap ((8:Int)+(IntKind.i64.wrap gv))) ((e2).cap:Int)) fun xl=>ex (Sub e2 1 (4:Int) ((e2).len:Int) ((e2).cap:Int)) fun Is=>M Pg 196 [X.enc (aeN),X.enc (xl)] (B .u32) aY fun dB bJ=>M Pg 228 [X.enc (Is)] (B .u32) bJ fun g8 cu=>if (dB != g8)=true then (j ((⟨none,0,0⟩:af),(0:Int),(32:Int)) cu) else (tk 5 (B .u8) ([]:List Int) cu fun fZ cA=>ex (Sub e2 1 (8:Int) (IntKind.i64.wrap ((8:Int)+(IntKind.i64.wrap gv))) ((e2).cap:Int)) fun CP=>tO 5 (B .u8) 1 1 (⟨some fZ,0,0⟩:af) CP cA fun mf dU=>ex (Sub mf 1 0 (IntKind.i64.wrap gv) (IntKind.i64.wrap gv)) fun L0=>j (L0,(IntKind.i64.wrap ((8:Int)+(IntKind.i64.wrap gv))),(0:Int)) dU))))
theorem ahC{e2 w j}(h:U6 e2 w j):M Pg 184 [X.enc e2] (mz X (B .i64) (B .i64)) w j:=by
 have gC:=eI 9 (dJ [0,1,2,3,4,5,7,8,6,9,10,11] .l)
 exact bu 46 Tryz.func184 rfl rfl bw
def U7(gm:aN)(bt:Addr)(w:World)(j:Unit→World→Prop):Prop:=ex (L X bt w) fun ej=>yX 5 (B .u8) 1 (0:Int) (ej.len:Int) (ej.len:Int) w fun bm aY=>ex (bM gm) fun b2=>bi X (b2.add 0) bm aY fun bZ=>dw bZ fun bJ=>ex (L X (b2.add 0) bJ) fun cJ=>ex (L X bt bJ) fun dD=>DQ (B .u8) 1 cJ dD bJ fun bs cV=>bi (B .i64) (b2.add 1) (bs:Int) cV fun cA=>j () cA
theorem ahD{gm bt w j}(h:U7 gm bt w j):M Pg 185 [.pointer gm,.pointer (some bt)] eh w j:=by
 have gC:=eI 2 (dJ [0,1,2,3,4,5,6,7,8,9] .l)
 exact bu 18 Tryz.func185 rfl rfl bw
def M6(fJ:aN)(w:World)(j:Int→World→Prop)(eG:eF→World→Prop):Prop:=dw w fun cG=>ex (bM fJ) fun aA=>ex (L (B .i64) (aA.add 1) cG) fun dk=>ex (L X (aA.add 0) cG) fun dQ=>if (decide (dk≥(dQ.len:Int)))=true then (eG (eF.mk 259 (j4.enc ((⟨(22:Int)⟩:kj)))) cG) else (ex (L (B .i64) (aA.add 1) cG) fun b_=>bi (B .i64) (aA.add 1) (IntKind.i64.wrap (b_+(1:Int))) cG fun bZ=>dw bZ fun bJ=>ex (L X (aA.add 0) bJ) fun cJ=>ex (L (B .i64) (aA.add 1) bJ) fun dD=>ex (cT cJ 1 (IntKind.i64.wrap (dD-(1:Int)))) fun fS=>ex (L (B .u8) fS bJ) fun fm=>j fm bJ)
theorem ahE{fJ:aN}{w:World}{j:Int→World→Prop}{eG:eF→World→Prop}(h:M6 fJ w j eG):n3 Pg 186 [.pointer (fJ)] (B .u8) w eG j:=by
 unfold M6 at h
 refine oH 33 Tryz.func186 rfl rfl (Nat.le_of_ble_eq_true rfl)<|wp_seq<|a4 _ rfl<|o rfl<|aU<|wp_seq<|wp_seq ?_
 obtain⟨cG,arR,h⟩:=n9 h
 refine o2 10 mixed rfl (by kernel_rfl) (by intro c a d v w h; cases d<;>exact h) arR (fun ai=>?_)
 refine gj 0 3 (.pointer (fJ)) ai rfl rfl ?_
 obtain⟨aA,z3,h⟩:=h
 refine ow 1 4 z3 ai rfl rfl<|g_ 2 5 aA 1 Tryz.underlying257 cU ai rfl rfl rfl<|gj 4 7 (.pointer (fJ)) ai rfl rfl<|ow 5 8 z3 ai rfl rfl<|g_ 6 9 aA 0 Tryz.underlying257 vB ai rfl rfl rfl ?_
 obtain⟨dk,asn,h⟩:=h
 refine hy 3 6 asn cU ai rfl rfl ?_
 obtain⟨dQ,ass,h⟩:=h
 refine hy 7 10 ass vB ai rfl rfl<|fl 8 11 ai rfl rfl rfl (fun _=>jZ (s:=dQ) rfl Tryz.underlying189 rfl)<|fl 9 12 ai rfl rfl rfl (fun _=>AE (a:=dk) (e:=(dQ.len:Int)) rfl rfl rfl)<|kM (by kernel_rfl)<|eb h rfl (fun _ h=>?_) fun _ h=>?_
 ·refine a4 _ rfl<|aP 13 rfl rfl rfl (za (bh:=(22:Int)) rfl rfl)<|aP 14 rfl rfl rfl (zb (v:=j4.enc ((⟨(22:Int)⟩:kj))) rfl Tryz.underlying259 rfl rfl)<|ey rfl (.free rfl) (C0 (v:=(eF.mk 259 (j4.enc ((⟨(22:Int)⟩:kj))))) rfl rfl ⟨_,_,rfl⟩ ?_)
  exact sn (P:=Pg) (fn:=Tryz.f186) h
 ·refine wp_skip<|wp_seq<|a4 _ rfl<|o rfl<|zx _ z3 rfl rfl<|gk _ _ _ Tryz.underlying257 cU rfl rfl rfl<|gQ cU h rfl rfl fun b_ _ h=>aP _ rfl rfl rfl (ni rfl rfl rfl)<|zx _ z3 rfl rfl<|gk _ _ _ Tryz.underlying257 cU rfl rfl rfl<|jp cU h rfl rfl rfl fun bZ h=>aU ?_
  refine wp_seq ?_
  obtain⟨bJ,ar9,h⟩:=n9 h
  refine o2 12 mixed rfl (by kernel_rfl) (by intro c a d v w h; cases d<;>exact h) ar9 (fun ai=>?_)
  refine gj 0 22 (.pointer (fJ)) ai rfl rfl<|ow 1 23 z3 ai rfl rfl<|g_ 2 24 aA 0 Tryz.underlying257 vB ai rfl rfl rfl<|gj 4 26 (.pointer (fJ)) ai rfl rfl<|ow 5 27 z3 ai rfl rfl<|g_ 6 28 aA 1 Tryz.underlying257 cU ai rfl rfl rfl ?_
  obtain⟨cJ,Hu,h⟩:=h
  refine hy 3 25 Hu vB ai rfl rfl ?_
  obtain⟨dD,B6,h⟩:=h
  refine hy 7 29 B6 cU ai rfl rfl<|fl 8 30 ai rfl rfl rfl (fun _=>vM (a:=dD) (e:=(1:Int)) rfl rfl rfl) ?_
  obtain⟨fS,ao5,h⟩:=h
  refine fl 9 31 ai rfl rfl rfl (fun _=>kd (s:=cJ) (k:=.i64) (i:=(IntKind.i64.wrap (dD-(1:Int)))) rfl Tryz.underlying189 HX rfl rfl ao5) ?_
  obtain⟨fm,yE,h⟩:=h
  refine hy 10 32 yE HX ai rfl rfl<|A2 11 2 (.int .u8 (fm)) ai rfl rfl<|kM (by kernel_rfl)<|wp_ret ?_
  exact iN h rfl rfl
def M8(fJ:aN)(b0:Int)(fT:Int)(aY:World)(gN:Int×Int→World→Prop)(j:Int→World→Prop)(eG:eF→World→Prop):Prop:=n3 Pg 186 [.pointer (fJ)] (B .u8) aY eG fun bU b3=>if (((fT==(63:Int))&&(decide (bU>(1:Int))))||((decide (fT>(0:Int)))&&(bU==(0:Int))))=true then (eG (eF.mk 259 (j4.enc ((⟨(23:Int)⟩:kj)))) b3) else (ex (jd fT (IntKind.u64.wrap ((IntKind.u64.wrap (bits .and .u8 bU (127:Int)))*2^(min (fT).toNat IntKind.u64.bits)))) fun d8=>if (decide (bU<(128:Int)))=true then (j (bits .or .u64 b0 d8) b3) else (gN ((bits .or .u64 b0 d8),(IntKind.u64.wrap (fT+(7:Int)))) b3))
def M7(fJ:aN)(w:World)(j:Int→World→Prop)(eG:eF→World→Prop):Prop:=fh (fun (s:Int×Int) w ab=>M8 fJ s.1 s.2 w ab j eG) ((0:Int),(0:Int)) w
theorem ahF{fJ:aN}{w:World}{j:Int→World→Prop}{eG:eF→World→Prop}(h:M7 fJ w j eG):n3 Pg 187 [.pointer (fJ)] (B .u64) w eG j:=by
 unfold M7 at h
 refine oH 36 Tryz.func187 rfl rfl (Nat.le_of_ble_eq_true rfl)<|wp_seq<|a4 _ rfl<|o rfl<|aU<|wp_seq<|a4 _ rfl<|o rfl<|aU<|wp_seq<|a4 _ rfl<|o rfl ?_
 refine aU<|wp_block<|rE (bC:=Int×Int) (dp:=fun g (s:Int×Int)=>ae (ae (ae (g) 0 (.pointer (fJ))) 3 (.int .u64 (s.1))) 4 (.int .u64 (s.2))) (lI:=((0:Int),(0:Int))) (aC (aC (aC rfl rfl) rfl) rfl) h ?_
 rintro⟨b0,fT⟩ g aY gN h
 unfold M8 at h
 refine wp_seq<|wp_block<|wp_seq<|a4 _ rfl<|o rfl<|ey rfl (.free rfl) (zt (d:=(some 9)) rfl (fD (k:=186) (m:=[.pointer (fJ)]) rfl O3 rfl) h ?_ ?_)
 ·exact fun _ _ h=>sn (P:=Pg) (fn:=Tryz.f187) h
 intro bU b3 h
 refine o rfl<|aU<|wp_seq<|wp_seq<|a4 _ rfl<|o rfl<|aP _ rfl rfl rfl (gn rfl rfl rfl)<|o rfl<|bn (g:=(fT==(63:Int))) (d:=(some 13)) rfl (.b7 2 12 true (fT==(63:Int)) rfl rfl rfl rfl) rfl (fun O=>cs (v:=.int .u8 (bU)) rfl rfl)<|bn (g:=(fT==(63:Int))) (d:=(some 14)) rfl (.b7 2 12 true (fT==(63:Int)) rfl rfl rfl rfl) rfl (fun O=>ss (k:=.u8) (a:=bU) (e:=(1:Int)) rfl (cc O) rfl)<|aP 15 rfl rfl rfl (lH (a:=(fT==(63:Int))) (e:=(decide (bU>(1:Int)))) rfl rfl rfl rfl)<|o rfl ?_
 refine bn (g:=(!((fT==(63:Int))&&(decide (bU>(1:Int)))))) (d:=(some 17)) rfl (.no 6 16 true ((fT==(63:Int))&&(decide (bU>(1:Int)))) rfl rfl rfl rfl) rfl (fun O=>cs (v:=.int .u64 (fT)) rfl rfl)<|bn (g:=(!((fT==(63:Int))&&(decide (bU>(1:Int)))))) (d:=(some 18)) rfl (.no 6 16 true ((fT==(63:Int))&&(decide (bU>(1:Int)))) rfl rfl rfl rfl) rfl (fun O=>ss (k:=.u64) (a:=fT) (e:=(0:Int)) rfl (cc O) rfl)<|bn (g:=(!((fT==(63:Int))&&(decide (bU>(1:Int)))))) (d:=(some 19)) rfl (.no 6 16 true ((fT==(63:Int))&&(decide (bU>(1:Int)))) rfl rfl rfl rfl) rfl (fun O=>cs (v:=.bool ((decide (fT>(0:Int))))) rfl (cc O))<|bn (g:=((!((fT==(63:Int))&&(decide (bU>(1:Int)))))&&(decide (fT>(0:Int))))) (d:=(some 20)) rfl (.b7 9 19 (!((fT==(63:Int))&&(decide (bU>(1:Int))))) (decide (fT>(0:Int))) rfl rfl rfl rfl) rfl (fun O=>cs (v:=.int .u8 (bU)) rfl rfl)<|bn (g:=((!((fT==(63:Int))&&(decide (bU>(1:Int)))))&&(decide (fT>(0:Int))))) (d:=(some 21)) rfl (.b7 9 19 (!((fT==(63:Int))&&(decide (bU>(1:Int))))) (decide (fT>(0:Int))) rfl rfl rfl rfl) rfl (fun O=>gn (k:=.u8) (a:=bU) (e:=(0:Int)) rfl (cc O) rfl)<|bn (g:=(!((fT==(63:Int))&&(decide (bU>(1:Int)))))) (d:=(some 22)) rfl (.no 6 16 true ((fT==(63:Int))&&(decide (bU>(1:Int)))) rfl rfl rfl rfl) rfl (fun O=>vL (cX:=(!((fT==(63:Int))&&(decide (bU>(1:Int)))))) (a:=(decide (fT>(0:Int)))) (e:=(bU==(0:Int))) O rfl rfl rfl rfl)<|aP 23 rfl rfl rfl (i_ (a:=((fT==(63:Int))&&(decide (bU>(1:Int))))) (c:=((decide (fT>(0:Int)))&&(bU==(0:Int)))) rfl rfl rfl rfl)<|aU<|eb h rfl (fun _ h=>?_) fun _ h=>?_
 ·refine a4 _ rfl<|aP 24 rfl rfl rfl (za (bh:=(23:Int)) rfl rfl)<|aP 25 rfl rfl rfl (zb (v:=j4.enc ((⟨(23:Int)⟩:kj))) rfl Tryz.underlying259 rfl rfl)<|ey rfl (.free rfl) (C0 (v:=(eF.mk 259 (j4.enc ((⟨(23:Int)⟩:kj))))) rfl rfl ⟨_,_,rfl⟩ ?_)
  exact sn (P:=Pg) (fn:=Tryz.f187) h
 ·refine wp_skip<|wp_seq<|a4 _ rfl<|o rfl<|o rfl<|aP 28 rfl rfl rfl (Ly (a:=bU) (e:=(127:Int)) rfl rfl rfl)<|aP 29 rfl rfl rfl (sr (a:=(bits .and .u8 bU (127:Int))) rfl Tryz.underlying5 Tryz.underlying195 rfl)<|o rfl ?_
  obtain⟨d8,apH,h⟩:=h
  refine aP 31 rfl rfl rfl (H_ (a:=(IntKind.u64.wrap (bits .and .u8 bU (127:Int)))) (e:=fT) (r:=d8) rfl rfl rfl apH)<|aP 32 rfl rfl rfl (LH (a:=b0) (e:=d8) rfl rfl rfl)<|o rfl<|aU<|wp_seq<|a4 _ rfl<|o rfl<|aP _ rfl rfl rfl (jw rfl rfl rfl)<|aU<|eb h rfl (fun _ h=>?_) fun _ h=>?_
  ·refine wp_seq<|a4 _ rfl<|o rfl<|o rfl<|aU<|wp_ret ?_
   exact iN h rfl rfl
  ·refine wp_skip<|a4 _ rfl<|o rfl<|aP _ rfl rfl rfl (ni rfl rfl rfl)<|o rfl<|aU ?_
   exact⟨((bits .or .u64 b0 d8),(IntKind.u64.wrap (fT+(7:Int)))),_,aX (aC (aC (aC rfl rfl) rfl) rfl),h⟩
def M_(fJ:aN)(b0:Int)(b5:Int)(aY:World)(gN:Int×Int→World→Prop)(j:Nat→World→Prop)(eG:eF→World→Prop):Prop:=if (decide (b5<(8:Int)))=true then (ex (jd (8:Int) (IntKind.u64.wrap (b0*2^(min ((8:Int)).toNat IntKind.u64.bits)))) fun d6=>n3 Pg 186 [.pointer (fJ)] (B .u8) aY eG fun a7 bZ=>gN ((bits .or .u64 d6 (IntKind.u64.wrap a7)),(IntKind.i64.wrap (b5+(1:Int)))) bZ) else (M Pg 229 [.float .f64 ((Int.toNat b0))] (B .u64) aY fun a6 b6=>if (a6 != b0)=true then (eG (eF.mk 259 (j4.enc ((⟨(25:Int)⟩:kj)))) b6) else (j (Int.toNat b0) b6))
def M9(fJ:aN)(w:World)(j:Nat→World→Prop)(eG:eF→World→Prop):Prop:=fh (fun (s:Int×Int) w ab=>M_ fJ s.1 s.2 w ab j eG) ((0:Int),(0:Int)) w
theorem ahG{fJ:aN}{w:World}{j:Nat→World→Prop}{eG:eF→World→Prop}(h:M9 fJ w j eG):n3 Pg 188 [.pointer (fJ)] g4 w eG j:=by
 unfold M9 at h
 refine oH 23 Tryz.func188 rfl rfl (Nat.le_of_ble_eq_true rfl)<|wp_seq<|a4 _ rfl<|o rfl<|aU<|wp_seq<|a4 _ rfl<|o rfl<|aU<|wp_seq<|wp_seq<|a4 _ rfl ?_
 refine o rfl<|aU<|wp_block<|rE (bC:=Int×Int) (dp:=fun g (s:Int×Int)=>ae (ae (ae (g) 0 (.pointer (fJ))) 3 (.int .u64 (s.1))) 5 (.int .i64 (s.2))) (lI:=((0:Int),(0:Int))) (aC (aC (aC rfl rfl) rfl) rfl) h ?_
 rintro⟨b0,b5⟩ g aY gN h
 unfold M_ at h
 refine wp_seq<|a4 _ rfl<|aP _ rfl rfl rfl (jw rfl rfl rfl)<|aU<|wp_seq<|eb h rfl (fun _ h=>?_) fun _ h=>?_
 ·refine wp_skip<|wp_seq<|wp_block<|a4 _ rfl<|o rfl ?_
  obtain⟨d6,apG,h⟩:=h
  refine aP 8 rfl rfl rfl (H_ (a:=b0) (e:=(8:Int)) (r:=d6) rfl rfl rfl apG)<|o rfl<|ey rfl (.free rfl) (zt (d:=(some 10)) rfl (fD (k:=186) (m:=[.pointer (fJ)]) rfl O3 rfl) h ?_ ?_)
  ·exact fun _ _ h=>sn (P:=Pg) (fn:=Tryz.f188) h
  intro a7 bZ h
  refine aP 11 rfl rfl rfl (sr (a:=a7) rfl Tryz.underlying5 Tryz.underlying195 rfl)<|aP 12 rfl rfl rfl (LH (a:=d6) (e:=(IntKind.u64.wrap a7)) rfl rfl rfl)<|o rfl<|aU<|a4 _ rfl<|aP _ rfl rfl rfl (ni rfl rfl rfl)<|o rfl<|aU ?_
  exact⟨((bits .or .u64 d6 (IntKind.u64.wrap a7)),(IntKind.i64.wrap (b5+(1:Int)))),_,aX (aC (aC (aC rfl rfl) rfl) rfl),h⟩
 ·refine wp_exit<|wp_seq<|a4 _ rfl<|o rfl<|aP 15 rfl rfl rfl (Si (e:=b0) rfl O8 rfl)<|o rfl<|aU<|wp_seq<|wp_seq<|a4 _ rfl<|o rfl<|ew anv rfl rfl h fun a6 b6 h=>?_
  refine o rfl<|aP _ rfl rfl rfl (g1 rfl rfl rfl)<|aU<|eb h rfl (fun _ h=>?_) fun _ h=>?_
  ·refine a4 _ rfl<|aP 20 rfl rfl rfl (za (bh:=(25:Int)) rfl rfl)<|aP 21 rfl rfl rfl (zb (v:=j4.enc ((⟨(25:Int)⟩:kj))) rfl Tryz.underlying259 rfl rfl)<|ey rfl (.free rfl) (C0 (v:=(eF.mk 259 (j4.enc ((⟨(25:Int)⟩:kj))))) rfl rfl ⟨_,_,rfl⟩ ?_)
   exact sn (P:=Pg) (fn:=Tryz.f188) h
  ·refine wp_skip<|wp_seq<|a4 _ rfl<|o rfl<|o rfl<|aU<|wp_ret ?_
   exact iN h rfl rfl
def Na(fJ:aN)(w:World)(j:(List UInt8)→World→Prop)(eG:eF→World→Prop):Prop:=n3 Pg 187 [.pointer (fJ)] (B .u64) w eG fun gv cG=>if (decide (gv>(1000:Int)))=true then (eG (eF.mk 259 (j4.enc ((⟨(24:Int)⟩:kj)))) cG) else (dw cG fun aY=>ex (bM fJ) fun b1=>ex (L X (b1.add 0) aY) fun b_=>ex (L (B .i64) (b1.add 1) aY) fun bS=>if (decide ((IntKind.u64.wrap (IntKind.i64.wrap ((b_.len:Int)-bS)))<gv))=true then (eG (eF.mk 259 (j4.enc ((⟨(22:Int)⟩:kj)))) aY) else (ex (L (B .i64) (b1.add 1) aY) fun cH=>bi (B .i64) (b1.add 1) (IntKind.i64.wrap (cH+(IntKind.i64.wrap gv))) aY fun b6=>dw b6 fun cu=>ex (L X (b1.add 0) cu) fun cQ=>ex (L (B .i64) (b1.add 1) cu) fun fm=>ex (L (B .i64) (b1.add 1) cu) fun dP=>ex (Sub cQ 1 (IntKind.i64.wrap (fm-(IntKind.i64.wrap gv))) dP ((cQ).cap:Int)) fun CP=>ex (tA CP cu) fun Iq=>j Iq cu))
theorem ahH{fJ:aN}{w:World}{j:(List UInt8)→World→Prop}{eG:eF→World→Prop}(h:Na fJ w j eG):n3 Pg 189 [.pointer (fJ)] qN w eG j:=by
 unfold Na at h
 refine oH 51 Tryz.func189 rfl rfl (Nat.le_of_ble_eq_true rfl)<|wp_seq<|a4 _ rfl<|o rfl<|aU<|wp_seq<|a4 _ rfl<|o rfl<|ey rfl (.free rfl) (zt (d:=(some 5)) rfl (fD (k:=187) (m:=[.pointer (fJ)]) rfl O4 rfl) h ?_ ?_)
 ·exact fun _ _ h=>sn (P:=Pg) (fn:=Tryz.f189) h
 intro gv cG h
 refine o rfl<|aU<|wp_seq<|wp_seq<|a4 _ rfl<|o rfl<|aP _ rfl rfl rfl (ss rfl rfl rfl)<|aU<|eb h rfl (fun _ h=>?_) fun _ h=>?_
 ·refine a4 _ rfl<|aP 8 rfl rfl rfl (za (bh:=(24:Int)) rfl rfl)<|aP 9 rfl rfl rfl (zb (v:=j4.enc ((⟨(24:Int)⟩:kj))) rfl Tryz.underlying259 rfl rfl)<|ey rfl (.free rfl) (C0 (v:=(eF.mk 259 (j4.enc ((⟨(24:Int)⟩:kj))))) rfl rfl ⟨_,_,rfl⟩ ?_)
  exact sn (P:=Pg) (fn:=Tryz.f189) h
 ·refine wp_skip<|wp_seq<|wp_seq ?_
  obtain⟨aY,Qv,h⟩:=n9 h
  refine o2 13 mixed rfl (by kernel_rfl) (by intro c a d v w h; cases d<;>exact h) Qv (fun ai=>?_)
  refine gj 0 10 (.pointer (fJ)) ai rfl rfl ?_
  obtain⟨b1,ub,h⟩:=h
  refine ow 1 11 ub ai rfl rfl<|g_ 2 12 b1 0 Tryz.underlying257 vB ai rfl rfl rfl<|gj 5 15 (.pointer (fJ)) ai rfl rfl<|ow 6 16 ub ai rfl rfl<|g_ 7 17 b1 1 Tryz.underlying257 cU ai rfl rfl rfl<|gj 11 21 (.int .u64 (gv)) ai rfl rfl ?_
  obtain⟨b_,asu,h⟩:=h
  refine hy 3 13 asu vB ai rfl rfl<|fl 4 14 ai rfl rfl rfl (fun _=>jZ (s:=b_) rfl Tryz.underlying189 rfl) ?_
  obtain⟨bS,QJ,h⟩:=h
  refine hy 8 18 QJ cU ai rfl rfl<|fl 9 19 ai rfl rfl rfl (fun _=>vM (a:=(b_.len:Int)) (e:=bS) rfl rfl rfl)<|fl 10 20 ai rfl rfl rfl (fun _=>sr (a:=(IntKind.i64.wrap ((b_.len:Int)-bS))) rfl Tryz.underlying3 Tryz.underlying195 rfl)<|fl 12 22 ai rfl rfl rfl (fun _=>jw (a:=(IntKind.u64.wrap (IntKind.i64.wrap ((b_.len:Int)-bS)))) (e:=gv) rfl rfl rfl)<|kM (by kernel_rfl)<|eb h rfl (fun _ h=>?_) fun _ h=>?_
  ·refine a4 _ rfl<|aP 23 rfl rfl rfl (za (bh:=(22:Int)) rfl rfl)<|aP 24 rfl rfl rfl (zb (v:=j4.enc ((⟨(22:Int)⟩:kj))) rfl Tryz.underlying259 rfl rfl)<|ey rfl (.free rfl) (C0 (v:=(eF.mk 259 (j4.enc ((⟨(22:Int)⟩:kj))))) rfl rfl ⟨_,_,rfl⟩ ?_)
   exact sn (P:=Pg) (fn:=Tryz.f189) h
  ·refine wp_skip<|wp_seq<|a4 _ rfl<|o rfl<|zx _ ub rfl rfl<|gk _ _ _ Tryz.underlying257 cU rfl rfl rfl<|gQ cU h rfl rfl fun cH _ h=>o rfl<|aP 30 rfl rfl rfl (sr (a:=gv) rfl Tryz.underlying195 Tryz.underlying3 rfl)<|aP _ rfl rfl rfl (ni rfl rfl rfl)<|zx _ ub rfl rfl<|gk _ _ _ Tryz.underlying257 cU rfl rfl rfl ?_
   refine jp cU h rfl rfl rfl fun b6 h=>aU<|wp_seq ?_
   obtain⟨cu,Qp,h⟩:=n9 h
   refine o2 18 mixed rfl (by kernel_rfl) (by intro c a d v w h; cases d<;>exact h) Qp (fun ai=>?_)
   refine gj 0 34 (.pointer (fJ)) ai rfl rfl<|ow 1 35 ub ai rfl rfl<|g_ 2 36 b1 0 Tryz.underlying257 vB ai rfl rfl rfl<|gj 4 38 (.pointer (fJ)) ai rfl rfl<|ow 5 39 ub ai rfl rfl<|g_ 6 40 b1 1 Tryz.underlying257 cU ai rfl rfl rfl<|gj 8 42 (.int .u64 (gv)) ai rfl rfl<|fl 9 43 ai rfl rfl rfl (fun _=>sr (a:=gv) rfl Tryz.underlying195 Tryz.underlying3 rfl)<|gj 11 45 (.pointer (fJ)) ai rfl rfl<|ow 12 46 ub ai rfl rfl<|g_ 13 47 b1 1 Tryz.underlying257 cU ai rfl rfl rfl ?_
   obtain⟨cQ,B7,h⟩:=h
   refine hy 3 37 B7 vB ai rfl rfl ?_
   obtain⟨fm,yE,h⟩:=h
   refine hy 7 41 yE cU ai rfl rfl<|fl 10 44 ai rfl rfl rfl (fun _=>vM (a:=fm) (e:=(IntKind.i64.wrap gv)) rfl rfl rfl) ?_
   obtain⟨dP,Hn,h⟩:=h
   refine hy 14 48 Hn cU ai rfl rfl ?_
   obtain⟨CP,arA,h⟩:=h
   refine fl 15 49 ai rfl rfl rfl (fun _=>LI (s:=cQ) (m:=(IntKind.i64.wrap (fm-(IntKind.i64.wrap gv)))) (h:=dP) rfl Tryz.underlying189 HX rfl rfl rfl arA) ?_
   obtain⟨Iq,arB,h⟩:=h
   refine tq (i:=16) (d:=(some 50)) (fun A=>(tA CP A) Iq) ai (by kernel_rfl) (by kernel_rfl) rfl (.free rfl) rfl (fun A aa=>R2 (e:=CP) (r:=Iq) rfl Tryz.underlying189 Tryz.underlying5 Tryz.underlying9 rfl aa) arB<|A2 17 2 (.string ⟨(Iq).toArray⟩) ai rfl rfl<|kM (by kernel_rfl)<|wp_ret ?_
   exact iN h rfl rfl
def IZ(e7:Nat)(fi:Bool)(bc:World)(j:(Nat×Int)→World→Prop):Prop:=if fi=true then (j (e7,(0:Int)) bc) else (M Pg 231 [.float .f64 (e7)] (bB g4 (B .i64)) bc fun bU b3=>ex (jd (52:Int) (Int.fdiv (bU.1:Int) (2^(min ((52:Int)).toNat IntKind.u64.bits)))) fun d8=>j ((Int.toNat (bits .or .u64 (bits .andNot .u64 (bU.1:Int) (9218868437227405312:Int)) (4602678819172646912:Int))),(IntKind.i64.wrap (bU.2+(IntKind.i64.wrap ((IntKind.i64.wrap ((IntKind.i64.wrap (bits .and .u64 d8 (2047:Int)))-(1023:Int)))+(1:Int)))))) b3)
def Nb(e7:Nat)(w:World)(j:(Nat×Int)→World→Prop):Prop:=if (ga .eql e7 (0:Nat))=true then (j (e7,(0:Int)) w) else (M Pg 138 [.float .f64 (e7),.int .i64 ((0:Int))] bo w fun gv cG=>if gv=true then (IZ e7 true cG j) else (M Pg 230 [.float .f64 (e7)] bo cG fun bs cV=>IZ e7 bs cV j))
theorem U9{e7 w j}(h:Nb e7 w j):M Pg 191 [.float .f64 e7] (bB g4 (B .i64)) w j:=by
 have rv:=sb (bC:=Bool) [3,4,5] [6] (fun s w=>IZ e7 s w j) (fun g s=>ae (ae g 0 (.float .f64 e7)) 15 (.bool s))
 exact bu 38 Tryz.func191 rfl rfl bw
def I1(a7:(Nat×Int))(aoa:Int)(aCX:Nat)(ev:World)(j:Nat→World→Prop):Prop:=ex (jd (52:Int) (IntKind.u64.wrap ((IntKind.u64.wrap (IntKind.i64.wrap (aoa+(1023:Int))))*2^(min ((52:Int)).toNat IntKind.u64.bits)))) fun d20=>ex (xE .mul aCX (Int.toNat (bits .or .u64 (bits .andNot .u64 (a7.1:Int) (9218868437227405312:Int)) d20))) fun aJL=>j aJL ev
def I0(oK:Nat)(pe:Int)(lL:Bool)(b3:World)(j:Nat→World→Prop):Prop:=if lL=true then (j oK b3) else (M Pg 231 [.float .f64 (oK)] (bB g4 (B .i64)) b3 fun a7 bZ=>ex (jd (52:Int) (Int.fdiv (a7.1:Int) (2^(min ((52:Int)).toNat IntKind.u64.bits)))) fun d9=>if (decide ((IntKind.i64.wrap ((IntKind.i64.wrap (pe+a7.2))+(IntKind.i64.wrap ((bits .and .i64 (IntKind.i64.wrap d9) (2047:Int))-(1023:Int)))))<(-1075:Int)))=true then (M Pg 232 [.float .f64 ((0:Nat)),.float .f64 (a7.1)] g4 bZ fun g8 cu=>j g8 cu) else (if (decide ((IntKind.i64.wrap ((IntKind.i64.wrap (pe+a7.2))+(IntKind.i64.wrap ((bits .and .i64 (IntKind.i64.wrap d9) (2047:Int))-(1023:Int)))))>(1023:Int)))=true then (if (ga .lss a7.1 (0:Nat))=true then (M Pg 233 [.int .i64 ((-1:Int))] g4 bZ fun eB cC=>j eB cC) else (M Pg 233 [.int .i64 ((1:Int))] g4 bZ fun fI df=>j fI df)) else (if (decide ((IntKind.i64.wrap ((IntKind.i64.wrap (pe+a7.2))+(IntKind.i64.wrap ((bits .and .i64 (IntKind.i64.wrap d9) (2047:Int))-(1023:Int)))))<(-1022:Int)))=true then (I1 a7 (IntKind.i64.wrap ((IntKind.i64.wrap ((IntKind.i64.wrap (pe+a7.2))+(IntKind.i64.wrap ((bits .and .i64 (IntKind.i64.wrap d9) (2047:Int))-(1023:Int)))))+(53:Int))) (4368491638549381120:Nat) bZ j) else (I1 a7 (IntKind.i64.wrap ((IntKind.i64.wrap (pe+a7.2))+(IntKind.i64.wrap ((bits .and .i64 (IntKind.i64.wrap d9) (2047:Int))-(1023:Int))))) (4607182418800017408:Nat) bZ j))))
def Nc(oK:Nat)(pe:Int)(w:World)(j:Nat→World→Prop):Prop:=if (ga .eql oK (0:Nat))=true then (j oK w) else (M Pg 138 [.float .f64 (oK),.int .i64 ((0:Int))] bo w fun bq bl=>if bq=true then (I0 oK pe true bl j) else (M Pg 230 [.float .f64 (oK)] bo bl fun ec gp=>I0 oK pe ec gp j))
theorem U_{oK pe w j}(h:Nc oK pe w j):M Pg 193 [.float .f64 oK,.int .i64 pe] g4 w j:=by
 have jt:=fun {a7:(Nat×Int)}=>iz (bC:=Int×Nat) 20 (fun s w=>I1 a7 s.1 s.2 w j) (fun g s=>ae (ae (ae g 6 (.int .u64 ((a7.1:Int)))) 1 (.int .i64 (s.1))) 7 (.float .f64 (s.2)))
 have rv:=sb (bC:=Bool) [3,4,5] [6] (fun s w=>I0 oK pe s w j) (fun g s=>ae (ae (ae g 0 (.float .f64 oK)) 1 (.int .i64 pe)) 18 (.bool s))
 exact bu 63 Tryz.func193 rfl rfl bw
def Va(bf:Int)(bt:Addr)(w:World)(j:Unit→World→Prop):Prop:=ex (L (B .i64) bt w) fun ej=>bi (B .i64) bt (max ej bf) w fun aY=>j () aY
theorem ahJ{bf bt w j}(h:Va bf bt w j):M Pg 194 [.int .i64 bf,.pointer (some bt)] eh w j:=
 bu 6 Tryz.func194 rfl rfl bw
def Vb(e2:af)(b0:Int)(w:World)(j:af→World→Prop):Prop:=ex (jd (24:Int) (Int.fdiv b0 (2^(min ((24:Int)).toNat IntKind.u32.bits)))) fun d3=>ex (jd (16:Int) (Int.fdiv b0 (2^(min ((16:Int)).toNat IntKind.u32.bits)))) fun d4=>ex (jd (8:Int) (Int.fdiv b0 (2^(min ((8:Int)).toNat IntKind.u32.bits)))) fun d5=>mn 5 (B .u8) 1 1 e2 [(IntKind.u8.wrap d3),(IntKind.u8.wrap d4),(IntKind.u8.wrap d5),(IntKind.u8.wrap b0)] w fun dB bJ=>j dB bJ
theorem ahK{e2 b0 w j}(h:Vb e2 b0 w j):M Pg 195 [X.enc e2,.int .u32 b0] X w j:=
 bu 19 Tryz.func195 rfl rfl bw
def Vc(KU:af)(yR:af)(w:World)(j:Int→World→Prop):Prop:=M Pg 234 [.int .u32 ((4294967295:Int)),X.enc (KU)] (B .u32) w fun bq bl=>M Pg 234 [.int .u32 (bq),X.enc (yR)] (B .u32) bl fun aI bc=>j (bits .xor .u32 IntKind.u32.max aI) bc
theorem ahL{KU yR w j}(h:Vc KU yR w j):M Pg 196 [X.enc KU,X.enc yR] (B .u32) w j:=
 bu 10 Tryz.func196 rfl rfl bw
def Vd(gm:aN)(bt:Addr)(w:World)(j:Unit→World→Prop):Prop:=dw w fun bl=>ex (bM gm) fun a9=>ex (L X (a9.add 0) bl) fun dQ=>ex (L X bt bl) fun b_=>tO 5 (B .u8) 1 1 dQ b_ bl fun a7 bZ=>bi X (a9.add 0) a7 bZ fun b6=>j () b6
theorem ahM{gm bt w j}(h:Vd gm bt w j):M Pg 197 [.pointer gm,.pointer (some bt)] eh w j:=by
 have gC:=eI 1 (dJ [0,1,2,3,4,5,6,7,8,9] .l)
 exact bu 12 Tryz.func197 rfl rfl bw
def Ve(dc:m5)(w:World)(j:Int→World→Prop):Prop:=bQ 197 gy dc w fun a1 bl=>ex (L gy a1 bl) fun dk=>M Pg 235 [gy.enc (dk)] bo bl fun aI bc=>if (!aI)=true then (j (21:Int) bc) else (ex (L qN (a1.add 4) bc) fun bS=>if (decide ((bS.length:Int)>(1000:Int)))=true then (j (24:Int) bc) else (j (0:Int) bc))
theorem ahN{dc w j}(h:Ve dc w j):M Pg 198 [gy.enc dc] (B .i64) w j:=
 bu 12 Tryz.func198 rfl rfl bw
def Nd(cI:Int)(XT:af)(KA:Int)(iK:World)(ajU:af×Int→World→Prop)(j:af→World→Prop):Prop:=if (decide (KA≥(0:Int)))=true then (ex (jd (IntKind.u64.wrap KA) (Int.fdiv cI (2^(min ((IntKind.u64.wrap KA)).toNat IntKind.u64.bits)))) fun d27=>mn 5 (B .u8) 1 1 XT [(IntKind.u8.wrap d27)] iK fun jk gV=>ajU (jk,(IntKind.i64.wrap (KA-(8:Int)))) gV) else (j XT iK)
def Vf(e2:af)(Mf:m5)(w:World)(j:af→World→Prop):Prop:=bQ 197 gy Mf w fun aA aY=>ex (L (B .i64) (aA.add 0) aY) fun dQ=>mn 5 (B .u8) 1 1 e2 [(IntKind.u8.wrap dQ)] aY fun dB bJ=>ex (L (B .i64) (aA.add 0) bJ) fun dD=>if (dD==(1:Int))=true then (ex (L (B .u64) (aA.add 1) bJ) fun cQ=>M Pg 236 [X.enc (dB),.int .u64 (cQ)] X bJ fun eB cC=>j eB cC) else (if (dD==(2:Int))=true then (ex (L (B .i64) (aA.add 2) bJ) fun eO=>ex (jd (1:Int) (IntKind.u64.wrap ((IntKind.u64.wrap eO)*2^(min ((1:Int)).toNat IntKind.u64.bits)))) fun d15=>ex (L (B .i64) (aA.add 2) bJ) fun bL=>ex (jd (63:Int) (Int.fdiv bL (2^(min ((63:Int)).toNat IntKind.i64.bits)))) fun d17=>M Pg 236 [X.enc (dB),.int .u64 ((bits .xor .u64 d15 (IntKind.u64.wrap d17)))] X bJ fun xh gb=>j xh gb) else (if (dD==(3:Int))=true then (ex (L g4 (aA.add 3) bJ) fun gq=>M Pg 229 [.float .f64 (gq)] (B .u64) bJ fun cI eK=>fh (fun (s:af×Int) w ab=>Nd cI s.1 s.2 w ab j) (dB,(56:Int)) eK) else (dw bJ fun iL=>ex (L qN (aA.add 4) iL) fun kg=>ex (L qN (aA.add 4) iL) fun mj=>M Pg 236 [X.enc (dB),.int .u64 ((IntKind.u64.wrap (kg.length:Int)))] X iL fun eo lO=>bG ((L qN (aA.add 4) lO) kg)<|bG ((L qN (aA.add 4) lO) mj)<|Oq 5 eo mj lO fun nS k6=>bG ((L qN (aA.add 4) k6) kg)<|j nS k6)))
theorem ahO{e2 Mf w j}(h:Vf e2 Mf w j):M Pg 199 [X.enc e2,gy.enc Mf] X w j:=by
 have ju:=fun {cI}=>hJ (bC:=af×Int) 11 (fun s w ab=>Nd cI s.1 s.2 w ab j) (fun g s=>ae (ae (ae g 5 (.int .u64 cI)) 0 (X.enc (s.1))) 6 (.int .i64 (s.2)))
 have gC:=eI 15 (dJ [0,1,6,2,3,4,7,5,8,9] .l)
 exact bu 61 Tryz.func199 rfl rfl bw
def Vh(dc:aN)(bt:Int)(w:World)(j:Int→World→Prop):Prop:=if ((decide (bt<(1:Int)))||(decide (bt>(1125899906842624:Int))))=true then (j (151:Int) w) else (ex (bM dc) fun aA=>ex (L (B .i64) (aA.add 2) w) fun dk=>if (decide (bt≤dk))=true then (j (152:Int) w) else (j (0:Int) w))
theorem ahS{dc bt w j}(h:Vh dc bt w j):M Pg 210 [.pointer dc,.int .i64 bt] (B .i64) w j:=
 bu 19 Tryz.func210 rfl rfl bw
def Vi(bV:aN)(yN:Int)(w:World)(j:(eV×Bool)→World→Prop):Prop:=bQ 292 dR kD w fun aA aY=>ex (bM bV) fun b1=>ex (L eC (b1.add 0) aY) fun b_=>ex (iD aE .i64 b_ yN aY) fun EC=>if (!(((EC.getD (none:Option Addr),EC.isSome)).2))=true then (bi dR aA (⟨(0:Int),(0:Int)⟩:eV) aY fun bJ=>ex (L dR aA bJ) fun cJ=>j (cJ,false) bJ) else (M Pg 243 [.pointer (((EC.getD (none:Option Addr),EC.isSome)).1)] (bB dR bo) aY fun g8 cu=>bi dR aA g8.1 cu fun cC=>ex (L dR aA cC) fun dP=>j (dP,g8.2) cC)
theorem ahT{bV yN w j}(h:Vi bV yN w j):M Pg 211 [.pointer bV,.int .i64 yN] (bB dR bo) w j:=
 bu 24 Tryz.func211 rfl rfl bw
def Vj(jS:Int)(w:World)(j:Bool→World→Prop):Prop:=j ((decide (jS≥(0:Int)))&&(decide (jS<(4096:Int)))) w
theorem ahU{jS w j}(h:Vj jS w j):M Pg 212 [.int .i64 jS] bo w j:=
 bu 9 Tryz.func212 rfl rfl bw
def Vk(bf:Int)(w:World)(j:Int→World→Prop):Prop:=if ((decide (bf<(0:Int)))||(decide (bf>(1000000000000000:Int))))=true then (j (40:Int) w) else (j (0:Int) w)
theorem ahV{bf w j}(h:Vk bf w j):M Pg 213 [.int .i64 bf] (B .i64) w j:=
 bu 9 Tryz.func213 rfl rfl bw
def FB(bt:Int)(kf:Int)(e1:Addr)(alh:aN)(eK:World)(m1:Int→World→Prop)(j:Int→World→Prop):Prop:=ex (L (B .i64) (e1.add 1) eK) fun gW=>M Pg 246 [.pointer (alh),.int .i64 (bt),.int .i64 (gW)] (B .i64) eK fun xi eD=>m1 ((IntKind.i64.wrap (kf+(1:Int)))) eD
def Ng(bt:Int)(l6:af)(a9:Addr)(kf:Int)(b6:World)(m1:Int→World→Prop)(j:Int→World→Prop):Prop:=if (decide (kf<(l6.len:Int)))=true then (ex (cT l6 2 kf) fun fS=>ex (L h2 fS b6) fun fm=>bQ 87 h2 DA b6 fun e1 df=>bi h2 e1 fm df fun dU=>dw dU fun dV=>ex (L eC (a9.add 0) dV) fun j2=>ex (L (B .i64) (e1.add 0) dV) fun cY=>ex (iD aE .i64 j2 cY dV) fun sc=>if (!(((sc.getD (none:Option Addr),sc.isSome)).2))=true then (M Pg 245 [] aE dV fun zc iK=>dw iK fun gp=>ex (L eC (a9.add 0) gp) fun jz=>ex (L (B .i64) (e1.add 0) gp) fun m0=>qt aE .i64 jz m0 zc gp fun gV=>FB bt kf e1 zc gV m1 j) else (FB bt kf e1 (((sc.getD (none:Option Addr),sc.isSome)).1) dV m1 j)) else (j (0:Int) b6)
def Vl(bV:aN)(bt:Int)(l6:af)(w:World)(j:Int→World→Prop):Prop:=if ((decide (bt<(1:Int)))||(decide (bt>(1125899906842624:Int))))=true then (j (120:Int) w) else (ex (bM bV) fun a9=>ex (L (B .i64) (a9.add 1) w) fun dQ=>if (decide (bt≤dQ))=true then (j (121:Int) w) else (M Pg 244 [.pointer (bV),.int .i64 (bt),X.enc (l6)] (B .i64) w fun bU b3=>if (bU != (0:Int))=true then (j bU b3) else (fh (fun (s:Int) w ab=>Ng bt l6 a9 s w ab j) ((0:Int)) b3)))
theorem ahW{bV bt l6 w j}(h:Vl bV bt l6 w j):M Pg 214 [.pointer bV,.int .i64 bt,X.enc l6] (B .i64) w j:=by
 have gC:=eI 12 (dJ [0,1,2,4,3,5,6,7,8,9,10,11] .l)
 have r0:=eI 15 (dJ [0,1,2,4,6,3,5,7] .l)
 have jt:=fun {kf} {e1} {m1}=>iz (bC:=aN) 16 (fun s w=>FB bt kf e1 s w m1 j) (fun g s=>ae (ae (ae (ae (ae (ae (ae g 0 (.pointer bV)) 1 (.int .i64 bt)) 9 (.pointer (some e1))) 33 (X.enc l6)) 34 (.int .i64 ((l6.len:Int)))) 35 (.int .i64 kf)) 10 (.pointer s))
 have ju:=fun {a9}=>hJ (bC:=Int) 10 (fun s w ab=>Ng bt l6 a9 s w ab j) (fun g s=>ae (ae (ae (ae (ae g 0 (.pointer bV)) 1 (.int .i64 bt)) 33 (X.enc l6)) 34 (.int .i64 ((l6.len:Int)))) 35 (.int .i64 s))
 exact bu 65 Tryz.func214 rfl rfl bw
def Vm(dc:aN)(bt:Int)(w:World)(j:Unit→World→Prop):Prop:=ex (bM dc) fun aA=>ex (L (B .i64) (aA.add 2) w) fun dk=>bi (B .i64) (aA.add 2) (max dk bt) w fun bc=>j () bc
theorem ahX{dc bt w j}(h:Vm dc bt w j):M Pg 215 [.pointer dc,.int .i64 bt] eh w j:=
 bu 13 Tryz.func215 rfl rfl bw
def FD(aA:Addr)(b2:Addr)(z4:Addr)(Cv:Bool)(sc:(Option Int))(ts:Bool)(gh:World)(j:(Int×Int)→World→Prop):Prop:=if ts=true then (j ((0:Int),(155:Int)) gh) else (if (!Cv)=true then (j ((0:Int),(159:Int)) gh) else (if ((sc.getD (0:Int),sc.isSome)).2=true then (j ((0:Int),(160:Int)) gh) else (ex (L bo (aA.add 3) gh) fun m0=>if (!m0)=true then (ex (L (B .i64) (z4.add 1) gh) fun kw=>ex (L (B .i64) (aA.add 2) gh) fun k9=>M Pg 247 [.int .i64 (kw),.int .i64 (k9)] (bB (B .i64) (B .i64)) gh fun sw g6=>if (sw.2 != (0:Int))=true then (j ((0:Int),(162:Int)) g6) else (j ((0:Int),(0:Int)) g6)) else (dw gh fun jy=>ex (L (B .i64) (aA.add 2) jy) fun zv=>ex (L g4 (b2.add 1) jy) fun zw=>M Pg 248 [.int .i64 (zv),.float .f64 (zw)] (bB (B .i64) (B .i64)) jy fun qC mA=>ex (L (B .i64) (z4.add 1) mA) fun nv=>ex (L (B .i64) (aA.add 2) mA) fun kx=>if (decide (nv<(IntKind.i64.wrap (kx+qC.1))))=true then (j ((0:Int),(161:Int)) mA) else (j (qC.1,(0:Int)) mA)))))
def FC(aA:Addr)(b2:Addr)(l7:(Option qZ))(z4:Addr)(Cv:Bool)(dU:World)(j:(Int×Int)→World→Prop):Prop:=dw dU fun dV=>ex (L eC (b2.add 4) dV) fun j2=>ex (L (B .i64) (aA.add 1) dV) fun cY=>ex (iD (B .i64) .i64 j2 cY dV) fun sc=>ex (L (B .i64) (aA.add 0) dV) fun gq=>if (decide (gq<(1:Int)))=true then (j ((0:Int),(156:Int)) dV) else (if ((l7.getD n1,l7.isSome)).2=true then (j ((0:Int),(157:Int)) dV) else (ex (L eC (b2.add 5) dV) fun k8=>ex (rR k8 dV) fun aCb=>if (decide ((aCb:Int)≥(5000:Int)))=true then (j ((0:Int),(158:Int)) dV) else (ex (L (B .i64) (aA.add 1) dV) fun mZ=>M Pg 212 [.int .i64 (mZ)] bo dV fun g3 fX=>if (!g3)=true then (j ((0:Int),(153:Int)) fX) else (ex (L (B .i64) (aA.add 2) fX) fun gi=>if (decide (gi<(1:Int)))=true then (FD aA b2 z4 Cv sc true fX j) else (ex (L (B .i64) (aA.add 2) fX) fun qc=>M Pg 213 [.int .i64 (qc)] (B .i64) fX fun aGj aI2=>FD aA b2 z4 Cv sc (aGj != (0:Int)) aI2 j)))))
def Vn(dc:aN)(sm:iO)(w:World)(j:(Int×Int)→World→Prop):Prop:=bQ 60 hd sm w fun aA aY=>dw aY fun bc=>ex (bM dc) fun b2=>ex (L eC (b2.add 5) bc) fun bS=>ex (L (B .i64) (aA.add 0) bc) fun cH=>ex (iD lV .i64 bS cH bc) fun l7=>bQ 104 lV n1 bc fun e0 cV=>bi lV e0 (((l7.getD n1,l7.isSome)).1) cV fun cC=>dw cC fun sH=>ex (L aE ((b2.add 0).add 0) sH) fun Mw=>ex (L (B .i64) (aA.add 1) sH) fun Mx=>sT (M Pg 211 [.pointer (Mw),.int .i64 (Mx)] (bB dR bo) sH fun LL tv=>bQ 292 dR kD tv fun Jm AT=>bi dR Jm LL.1 AT fun xu=>FC aA b2 l7 Jm LL.2 xu j) (bQ 292 dR kD sH fun DD xv=>M Pg 211 [.pointer (Mw),.int .i64 (Mx)] (bB dR bo) xv fun LM Tp=>bi dR DD LM.1 Tp fun AU=>FC aA b2 l7 DD LM.2 AU j)
theorem ahY{dc sm w j}(h:Vn dc sm w j):M Pg 216 [.pointer dc,hd.enc sm] (bB (B .i64) (B .i64)) w j:=by
 have gC:=eI 2 (dJ [0,1,2,4,3,5,6,7,8,9,10,11,12] .l)
 have r0:=eI 4 (dJ [0,1,2,4,3,5,6,7,8,9,10,11] .l)
 have DR:=eI 24 (dJ [0,2,3,4,1,5,6,7,8,9,10,11] .l)
 have rv:=fun {aA} {b2} {z4} {Cv} {sc:(Option Int)}=>sb (bC:=Bool) [4,5,6,7,8] [9] (fun s w=>FD aA b2 z4 Cv sc s w j) (fun g s=>ae (ae (ae (ae (ae (ae g 0 (.pointer dc)) 3 (.pointer (some aA))) 8 (.pointer (some z4))) 9 (.bool Cv)) 11 (.bool (((sc.getD (0:Int),sc.isSome)).2))) 74 (.bool s))
 have amz:=eI 3 (dJ [0,1,2,3,5,4,6] (.e 7 11 (dJ [8,9,10,11,12,13] .l) (dJ [7,8,9,10,12,13] .l)))
 have jt:=fun {aA} {b2} {l7:(Option qZ)}=>iz (bC:=Addr×Bool) 4 (fun s w=>FC aA b2 l7 s.1 s.2 w j) (fun g s=>ae (ae (ae (ae (ae g 0 (.pointer dc)) 3 (.pointer (some aA))) 7 (.bool (((l7.getD n1,l7.isSome)).2))) 8 (.pointer (some s.1))) 9 (.bool (s.2)))
 exact bu 111 Tryz.func216 rfl rfl bw
def FE(iX:Int)(aA:Addr)(cA:World)(j:Int→World→Prop):Prop:=ex (L eC (aA.add 5) cA) fun eO=>qt lV .i64 eO iX (⟨(3:Int),(0:Int)⟩:qZ) cA fun dU=>j (0:Int) dU
def Vo(dc:aN)(iX:Int)(w:World)(j:Int→World→Prop):Prop:=ex (bM dc) fun aA=>ex (L eC (aA.add 5) w) fun dk=>ex (iD lV .i64 dk iX w) fun jI=>bQ 104 lV n1 w fun b2 bZ=>bi lV b2 (((jI.getD n1,jI.isSome)).1) bZ fun bJ=>if (decide (iX<(1:Int)))=true then (j (156:Int) bJ) else (ex (L (B .i64) (b2.add 0) bJ) fun cJ=>if (cJ==(2:Int))=true then (j (157:Int) bJ) else (ex (fun x=>(!(((jI.getD n1,jI.isSome)).2))=true→(bM dc) x) fun e0=>ex (fun x=>(!(((jI.getD n1,jI.isSome)).2))=true→(L eC (e0.add 5) bJ) x) fun cQ=>ex (fun x=>(!(((jI.getD n1,jI.isSome)).2))=true→(rR cQ bJ) x) fun KP=>if ((!(((jI.getD n1,jI.isSome)).2))&&(decide ((KP:Int)≥(5000:Int))))=true then (j (158:Int) bJ) else (ex (L eC (aA.add 3) bJ) fun bL=>ex (iD iQ .i64 bL iX bJ) fun un=>bQ 135 iQ q1 bJ fun rV ev=>bi iQ rV (((un.getD q1,un.isSome)).1) ev fun eJ=>if ((un.getD q1,un.isSome)).2=true then (ex (L iQ rV eJ) fun k8=>M Pg 249 [.pointer (dc),iQ.enc (k8)] eh eJ fun mS fa=>FE iX aA fa j) else (FE iX aA eJ j))))
theorem ahZ{dc iX w j}(h:Vo dc iX w j):M Pg 217 [.pointer dc,.int .i64 iX] (B .i64) w j:=by
 have jt:=fun {aA}=>iz (bC:=Unit) 12 (fun s w=>FE iX aA w j) (fun g s=>ae (ae g 0 (.pointer dc)) 1 (.int .i64 iX))
 exact bu 55 Tryz.func217 rfl rfl bw
def Nh(dc:aN)(bt:Int)(b1:Addr)(cZ:Addr)(b6:World)(m1:Unit→World→Prop)(j:Int→World→Prop):Prop:=lm cZ b6 fun aFr cV=>if (Option.isSome aFr)=true then (ex (kA iQ .i64 cZ cV) fun amM=>bQ 135 iQ q1 cV fun hR dU=>bi iQ hR amM.2 dU fun dV=>ex (L (B .i64) (hR.add 4) dV) fun j2=>if (decide (j2≤bt))=true then (j (160:Int) dV) else (m1 () dV)) else (ex (L aE ((b1.add 0).add 0) cV) fun hY=>M Pg 251 [.pointer (hY),.int .i64 (bt)] (B .i64) cV fun pt eJ=>M Pg 215 [.pointer (dc),.int .i64 (bt)] eh eJ fun mS fa=>j (0:Int) fa)
def Vp(dc:aN)(bt:Int)(w:World)(j:Int→World→Prop):Prop:=M Pg 250 [.int .i64 (bt)] bo w fun bq bl=>if (!bq)=true then (j (151:Int) bl) else (ex (bM dc) fun b1=>ex (L eC (b1.add 3) bl) fun b_=>Ik b_ bl fun cZ bZ=>fh (fun (s:Unit) w ab=>Nh dc bt b1 cZ w ab j) () bZ)
theorem ah0{dc bt w j}(h:Vp dc bt w j):M Pg 218 [.pointer dc,.int .i64 bt] (B .i64) w j:=by
 have ju:=fun {b1} {cZ}=>hJ (bC:=Unit) 5 (fun s w ab=>Nh dc bt b1 cZ w ab j) (fun g s=>ae (ae (ae g 0 (.pointer dc)) 1 (.int .i64 bt)) 14 (.pointer (some cZ)))
 exact bu 33 Tryz.func218 rfl rfl bw
def Vq(dc:aN)(pq:Int)(w:World)(j:Int→World→Prop):Prop:=ex (bM dc) fun aA=>ex (L aE ((aA.add 0).add 0) w) fun dk=>M Pg 252 [.pointer (dk),.int .i64 (pq)] (B .i64) w fun aI bc=>M Pg 118 [.int .i64 (aI)] (B .i64) bc fun a7 bZ=>j a7 bZ
theorem ah1{dc pq w j}(h:Vq dc pq w j):M Pg 219 [.pointer dc,.int .i64 pq] (B .i64) w j:=
 bu 13 Tryz.func219 rfl rfl bw
def Vt(dc:aN)(bt:Int)(Er:Int)(w:World)(j:Int→World→Prop):Prop:=if ((decide (bt<(1:Int)))||(decide (bt>(1125899906842624:Int))))=true then (j (151:Int) w) else (ex (bM dc) fun a9=>ex (L eC (a9.add 5) w) fun dQ=>ex (iD lV .i64 dQ Er w) fun Rj=>bQ 104 lV n1 w fun cj bJ=>bi lV cj (Rj.getD n1) bJ fun b6=>ex (L (B .i64) (cj.add 0) b6) fun dD=>if (dD==(2:Int))=true then (ex (L (B .i64) (cj.add 1) b6) fun cQ=>if (cQ != bt)=true then (j (157:Int) b6) else (j (0:Int) b6)) else (if (dD==(1:Int))=true then (ex (L eC (a9.add 3) b6) fun dP=>ex (iD iQ .i64 dP Er b6) fun qs=>bQ 135 iQ q1 b6 fun gJ dV=>bi iQ gJ (qs.getD q1) dV fun db=>ex (L (B .i64) (gJ.add 4) db) fun cY=>if (decide (bt<cY))=true then (j (152:Int) db) else (dw db fun ev=>ex (L aE ((a9.add 0).add 0) ev) fun gq=>ex (L iQ gJ ev) fun k8=>M Pg 253 [.pointer (dc),iQ.enc (k8)] X ev fun mS fa=>bG ((L aE ((a9.add 0).add 0) fa) gq)<|M Pg 214 [.pointer (gq),.int .i64 (bt),X.enc (mS)] (B .i64) fa fun zc iK=>bG ((L iQ gJ iK) k8)<|ex (L iQ gJ iK) fun jz=>M Pg 249 [.pointer (dc),iQ.enc (jz)] eh iK fun su lN=>ex (L eC (a9.add 5) lN) fun k9=>qt lV .i64 k9 Er (⟨(2:Int),bt⟩:qZ) lN fun g6=>M Pg 215 [.pointer (dc),.int .i64 (bt)] eh g6 fun AG iL=>j (0:Int) iL)) else (j (163:Int) b6)))
theorem ah2{dc bt Er w j}(h:Vt dc bt Er w j):M Pg 220 [.pointer dc,.int .i64 bt,.int .i64 Er] (B .i64) w j:=by
 have gC:=eI 15 (dJ [0,1,2,3,5,6,4,7,8,9] .l)
 exact bu 64 Tryz.func220 rfl rfl bw
def Vu(fP:Int)(iX:Int)(b5:Addr)(w:World)(j:Int→World→Prop):Prop:=ex (L gw b5 w) fun dk=>sV Pg dk [.int .i64 (iX)] (B .i64) w fun aI bc=>j aI bc
theorem ah3{fP iX b5 w j}(h:Vu fP iX b5 w j):M Pg 221 [.int .i64 fP,.int .i64 iX,.pointer (some b5)] (B .i64) w j:=
 bu 9 Tryz.func221 rfl rfl bw
def Vv(fP:Int)(bt:Int)(b5:Addr)(w:World)(j:Int→World→Prop):Prop:=ex (L gw b5 w) fun dk=>sV Pg dk [.int .i64 (fP)] (B .i64) w fun aI bc=>j aI bc
theorem ah4{fP bt b5 w j}(h:Vv fP bt b5 w j):M Pg 222 [.int .i64 fP,.int .i64 bt,.pointer (some b5)] (B .i64) w j:=
 bu 9 Tryz.func222 rfl rfl bw
def Vw(fP:Int)(bt:Int)(b5:Addr)(w:World)(j:Int→World→Prop):Prop:=ex (L gw b5 w) fun dk=>sV Pg dk [.int .i64 (fP)] (B .i64) w fun aI bc=>j aI bc
theorem ah5{fP bt b5 w j}(h:Vw fP bt b5 w j):M Pg 223 [.int .i64 fP,.int .i64 bt,.pointer (some b5)] (B .i64) w j:=
 bu 9 Tryz.func223 rfl rfl bw
def Vx(fP:Int)(w:World)(j:Bool→World→Prop):Prop:=j ((decide (fP≥(0:Int)))&&(decide (fP≤(1125899906842624:Int)))) w
theorem ah6{fP w j}(h:Vx fP w j):M Pg 224 [.int .i64 fP] bo w j:=
 bu 9 Tryz.func224 rfl rfl bw
def Vy(aO:aN)(hg:Int)(w:World)(j:Int→World→Prop):Prop:=bQ 290 aE aO w fun aA aY=>bQ 2 (B .i64) hg aY fun b1 b3=>ex (L aE aA b3) fun bS=>ex (bM bS) fun cZ=>ex (L X (cZ.add 0) b3) fun cJ=>M Pg 254 [.int .i64 ((cJ.len:Int)),((cw.mk (.func 255) (List.toArray []) (List.toArray [.pointer (some aA),.pointer (some b1)]))).enc] (B .i64) b3 fun g8 cu=>j g8 cu
theorem ah7{aO hg w j}(h:Vy aO hg w j):M Pg 226 [.pointer aO,.int .i64 hg] (B .i64) w j:=
 bu 12 Tryz.func226 rfl rfl bw
def Vz(e2:af)(w:World)(j:Int→World→Prop):Prop:=dw w fun cG=>ex (cT e2 1 (0:Int)) fun aA=>ex (cT e2 1 (1:Int)) fun a9=>ex (cT e2 1 (2:Int)) fun b1=>ex (cT e2 1 (3:Int)) fun b2=>ex (L (B .u8) aA cG) fun bS=>ex (jd (24:Int) (IntKind.u32.wrap ((IntKind.u32.wrap bS)*2^(min ((24:Int)).toNat IntKind.u32.bits)))) fun d8=>ex (L (B .u8) a9 cG) fun cJ=>ex (jd (16:Int) (IntKind.u32.wrap ((IntKind.u32.wrap cJ)*2^(min ((16:Int)).toNat IntKind.u32.bits)))) fun d10=>ex (L (B .u8) b1 cG) fun cQ=>ex (jd (8:Int) (IntKind.u32.wrap ((IntKind.u32.wrap cQ)*2^(min ((8:Int)).toNat IntKind.u32.bits)))) fun d12=>ex (L (B .u8) b2 cG) fun dP=>j (bits .or .u32 (bits .or .u32 (bits .or .u32 d8 d10) d12) (IntKind.u32.wrap dP)) cG
theorem ah8{e2 w j}(h:Vz e2 w j):M Pg 228 [X.enc e2] (B .u32) w j:=by
 have gC:=eI 2 (dJ [0,1,5,6,11,12,17,18,2,3,4,7,8,9,10,13,14,15,16,19,20,21,22] .l)
 exact bu 25 Tryz.func228 rfl rfl bw
def VA(e7:Nat)(w:World)(j:Int→World→Prop):Prop:=M Pg 87 [.float .f64 (e7)] (B .i64) w fun gv cG=>if (gv==(0:Int))=true then (M Pg 256 [.int .u64 ((0:Int))] (bB g4 bo) cG fun bm aY=>j (bm.1:Int) aY) else (j (e7:Int) cG)
theorem ah9{e7 w j}(h:VA e7 w j):M Pg 229 [.float .f64 e7] (B .u64) w j:=
 bu 16 Tryz.func229 rfl rfl bw
def VC(e7:Nat)(w:World)(j:Bool→World→Prop):Prop:=j (ga .neq e7 e7) w
theorem aib{e7 w j}(h:VC e7 w j):M Pg 230 [.float .f64 e7] bo w j:=
 bu 6 Tryz.func230 rfl rfl bw
def VD(iq:Nat)(w:World)(j:(Nat×Int)→World→Prop):Prop:=M Pg 181 [.float .f64 (iq)] g4 w fun gv cG=>if (ga .lss gv (4503599627370496:Nat))=true then (ex (xE .mul iq (4841369599423283200:Nat)) fun IQ=>j (IQ,(-52:Int)) cG) else (j (iq,(0:Int)) cG)
theorem aic{iq w j}(h:VD iq w j):M Pg 231 [.float .f64 iq] (bB g4 (B .i64)) w j:=
 bu 10 Tryz.func231 rfl rfl bw
def Nj(fi:Int)(OH:Int)(L_:Int)(cV:World)(wi:Int×Int→World→Prop)(wh:Int×Int→World→Prop)(j:Int→World→Prop):Prop:=if (decide (L_<(8:Int)))=true then (ex (jd (1:Int) (Int.fdiv OH (2^(min ((1:Int)).toNat IntKind.u32.bits)))) fun d13=>wh ((bits .xor .u32 d13 (bits .and .u32 (IntKind.u32.wrap (0-(bits .and .u32 OH (1:Int)))) (3988292384:Int))),(IntKind.i64.wrap (L_+(1:Int)))) cV) else (wi (OH,(IntKind.i64.wrap (fi+(1:Int)))) cV)
def Ni(h4:af)(X6:Int)(fi:Int)(bc:World)(wi:Int×Int→World→Prop)(j:Int→World→Prop):Prop:=if (decide (fi<(h4.len:Int)))=true then (ex (cT h4 1 fi) fun cj=>ex (L (B .u8) cj bc) fun cH=>fh (fun (s:Int×Int) w ab=>Nj fi s.1 s.2 w wi ab j) ((bits .xor .u32 X6 (IntKind.u32.wrap cH)),(0:Int)) bc) else (j X6 bc)
def VE(aO:Int)(h4:af)(w:World)(j:Int→World→Prop):Prop:=fh (fun (s:Int×Int) w ab=>Ni h4 s.1 s.2 w ab j) (aO,(0:Int)) w
theorem aid{aO h4 w j}(h:VE aO h4 w j):M Pg 234 [.int .u32 aO,X.enc h4] (B .u32) w j:=by
 have ju:=fun {fi} {wi}=>hJ (bC:=Int×Int) 7 (fun s w ab=>Nj fi s.1 s.2 w wi ab j) (fun g s=>ae (ae (ae (ae (ae g 7 (X.enc h4)) 8 (.int .i64 ((h4.len:Int)))) 9 (.int .i64 fi)) 0 (.int .u32 (s.1))) 17 (.int .i64 (s.2)))
 have HJ:=hJ (bC:=Int×Int) 3 (fun s w ab=>Ni h4 s.1 s.2 w ab j) (fun g s=>ae (ae (ae (ae g 7 (X.enc h4)) 8 (.int .i64 ((h4.len:Int)))) 0 (.int .u32 (s.1))) 9 (.int .i64 (s.2)))
 exact bu 29 Tryz.func234 rfl rfl bw
def VF(dc:m5)(w:World)(j:Bool→World→Prop):Prop:=bQ 197 gy dc w fun a1 bl=>dw bl fun aY=>ex (L (B .u64) (a1.add 1) aY) fun dQ=>ex (L (B .i64) (a1.add 2) aY) fun b_=>ex (L g4 (a1.add 3) aY) fun bS=>ex (L qN (a1.add 4) aY) fun cH=>ex (L (B .i64) (a1.add 0) aY) fun cJ=>if (cJ==(1:Int))=true then (j (((b_==(0:Int))&&((bS:Int)==(0:Int)))&&(cH==([]:List UInt8))) aY) else (if (cJ==(2:Int))=true then (j (((dQ==(0:Int))&&((bS:Int)==(0:Int)))&&(cH==([]:List UInt8))) aY) else (if (cJ==(3:Int))=true then (j (((dQ==(0:Int))&&(b_==(0:Int)))&&(cH==([]:List UInt8))) aY) else (if (cJ==(4:Int))=true then (j (((dQ==(0:Int))&&(b_==(0:Int)))&&((bS:Int)==(0:Int))) aY) else (j false aY))))
theorem aie{dc w j}(h:VF dc w j):M Pg 235 [gy.enc dc] bo w j:=by
 have gC:=eI 2 (dJ [0,3,6,10,1,2,4,5,7,8,9,13,14,15,11,12,16] .l)
 exact bu 58 Tryz.func235 rfl rfl bw
def Nk(tR:af)(w_:Int)(bc:World)(wi:af×Int→World→Prop)(j:af→World→Prop):Prop:=if (decide (w_≥(128:Int)))=true then (mn 5 (B .u8) 1 1 tR [(bits .or .u8 (IntKind.u8.wrap w_) (128:Int))] bc fun a6 b6=>ex (jd (7:Int) (Int.fdiv w_ (2^(min ((7:Int)).toNat IntKind.u64.bits)))) fun d11=>wi (a6,d11) b6) else (mn 5 (B .u8) 1 1 tR [(IntKind.u8.wrap w_)] bc fun fI df=>j fI df)
def VG(e2:af)(b0:Int)(w:World)(j:af→World→Prop):Prop:=fh (fun (s:af×Int) w ab=>Nk s.1 s.2 w ab j) (e2,b0) w
theorem aif{e2 b0 w j}(h:VG e2 b0 w j):M Pg 236 [X.enc e2,.int .u64 b0] X w j:=by
 have ju:=hJ (bC:=af×Int) 2 (fun s w ab=>Nk s.1 s.2 w ab j) (fun g s=>ae (ae g 0 (X.enc (s.1))) 1 (.int .u64 (s.2)))
 exact bu 20 Tryz.func236 rfl rfl bw
def VH(aO:aN)(w:World)(j:(eV×Bool)→World→Prop):Prop:=bQ 292 dR kD w fun a1 bl=>ex (bM aO) fun a9=>ex (L X (a9.add 0) bl) fun dQ=>if ((dQ.len:Int)==(0:Int))=true then (bi dR a1 (⟨(0:Int),(0:Int)⟩:eV) bl fun b3=>ex (L dR a1 b3) fun bS=>j (bS,false) b3) else (dw bl fun bJ=>ex (L X (a9.add 0) bJ) fun cJ=>ex (L X (a9.add 0) bJ) fun dD=>ex (cT cJ 2 (IntKind.i64.wrap ((dD.len:Int)-(1:Int)))) fun fS=>ex (L dR fS bJ) fun fm=>bi dR a1 fm bJ fun cA=>ex (L dR a1 cA) fun eO=>j (eO,true) cA)
theorem aih{aO w j}(h:VH aO w j):M Pg 243 [.pointer aO] (bB dR bo) w j:=by
 have gC:=eI 4 (dJ [0,1,2,4,5,6,3,7,8,9,10,11,12,13] .l)
 exact bu 23 Tryz.func243 rfl rfl bw
def Nn(bV:aN)(bt:Int)(l6:af)(jI:Nat)(zi:Int)(bZ:World)(N6:Int→World→Prop)(j:Int→World→Prop):Prop:=if (decide (zi<(l6.len:Int)))=true then (ex (cT l6 2 zi) fun dE=>ex (L h2 dE bZ) fun dD=>bQ 87 h2 DA bZ fun fS cC=>bi h2 fS dD cC fun cA=>ex (L (B .i64) (fS.add 0) cA) fun eO=>ex (iD fF .i64 (some jI) eO cA) fun th=>bQ 164 fF q2 cA fun iR db=>bi fF iR (((th.getD q2,th.isSome)).1) db fun gb=>ex (L (B .i64) (fS.add 0) gb) fun hY=>M Pg 211 [.pointer (bV),.int .i64 (hY)] (bB dR bo) gb fun pt eJ=>bQ 292 dR kD eJ fun rW eD=>bi dR rW pt.1 eD fun fX=>ex (L (B .i64) (fS.add 0) fX) fun eE=>M Pg 258 [.int .i64 (eE)] bo fX fun fk fe=>if (!fk)=true then (j (123:Int) fe) else (if ((th.getD q2,th.isSome)).2=true then (j (124:Int) fe) else (ex (L (B .i64) (rW.add 0) fe) fun jz=>if (decide (jz≥bt))=true then (j (121:Int) fe) else (ex (L (B .i64) (fS.add 0) fe) fun m0=>M Pg 259 [.pointer (bV),.int .i64 (m0)] bo fe fun jk gV=>if jk=true then (j (125:Int) gV) else (ex (L (B .i64) (fS.add 0) gV) fun kQ=>qt fF .i64 (some jI) kQ (⟨⟩:o8) gV fun iL=>N6 ((IntKind.i64.wrap (zi+(1:Int)))) iL))))) else (j (0:Int) bZ)
def VI(bV:aN)(bt:Int)(l6:af)(w:World)(j:Int→World→Prop):Prop:=if (decide ((l6.len:Int)>(100:Int)))=true then (j (122:Int) w) else (ur w fun jI aY=>fh (fun (s:Int) w ab=>Nn bV bt l6 jI s w ab j) ((0:Int)) aY)
theorem aii{bV bt l6 w j}(h:VI bV bt l6 w j):M Pg 244 [.pointer bV,.int .i64 bt,X.enc l6] (B .i64) w j:=by
 have ju:=fun {jI}=>hJ (bC:=Int) 6 (fun s w ab=>Nn bV bt l6 jI s w ab j) (fun g s=>ae (ae (ae (ae (ae (ae g 0 (.pointer bV)) 1 (.int .i64 bt)) 7 (.map ((some jI)))) 18 (X.enc l6)) 19 (.int .i64 ((l6.len:Int)))) 20 (.int .i64 s))
 exact bu 60 Tryz.func244 rfl rfl bw
def VJ(w:World)(j:aN→World→Prop):Prop:=bQ 328 wu (⟨(⟨none,0,0⟩:af),(0:Int)⟩:xN) w fun lY cG=>j (some lY) cG
theorem aij{w j}(h:VJ w j):M Pg 245 [] aE w j:=
 bu 3 Tryz.func245 rfl rfl bw
def VK(aO:aN)(bt:Int)(Mg:Int)(w:World)(j:Int→World→Prop):Prop:=if ((decide (bt<(1:Int)))||(decide (bt>(1125899906842624:Int))))=true then (j (110:Int) w) else (M Pg 243 [.pointer (aO)] (bB dR bo) w fun bm aY=>bQ 292 dR kD aY fun b2 bZ=>bi dR b2 bm.1 bZ fun bJ=>ex (fun x=>bm.2=true→(L (B .i64) (b2.add 0) bJ) x) fun cJ=>ex (fun x=>(!(bm.2&&(decide (bt≤cJ))))=true→(bM aO) x) fun e0=>ex (fun x=>(!(bm.2&&(decide (bt≤cJ))))=true→(L (B .i64) (e0.add 1) bJ) x) fun cQ=>if ((bm.2&&(decide (bt≤cJ)))||(decide (bt≤cQ)))=true then (j (111:Int) bJ) else (ex (bM aO) fun fZ=>ex (L X (fZ.add 0) bJ) fun dP=>if (decide ((dP.len:Int)≥(10000:Int)))=true then (j (112:Int) bJ) else (ex (L X (fZ.add 0) bJ) fun eO=>mn 292 dR 2 16 eO [(⟨bt,Mg⟩:eV)] bJ fun ea db=>bi X (fZ.add 0) ea db fun ev=>j (0:Int) ev)))
theorem aik{aO bt Mg w j}(h:VK aO bt Mg w j):M Pg 246 [.pointer aO,.int .i64 bt,.int .i64 Mg] (B .i64) w j:=
 bu 53 Tryz.func246 rfl rfl bw
def VL(jS:Int)(h4:Int)(w:World)(j:(Int×Int)→World→Prop):Prop:=tk 2 (B .i64) [jS,h4] w fun aA aY=>M Pg 260 [X.enc ((⟨some aA,2,2⟩:af))] (bB (B .i64) (B .i64)) aY fun aI bc=>j (aI.1,aI.2) bc
theorem ail{jS h4 w j}(h:VL jS h4 w j):M Pg 247 [.int .i64 jS,.int .i64 h4] (bB (B .i64) (B .i64)) w j:=
 bu 12 Tryz.func247 rfl rfl bw
def VM(bf:Int)(Ii:Nat)(w:World)(j:(Int×Int)→World→Prop):Prop:=M Pg 213 [.int .i64 (bf)] (B .i64) w fun bq bl=>if (bq != (0:Int))=true then (j ((0:Int),bq) bl) else (M Pg 38 [.float .f64 (Ii)] (B .i64) bl fun aI bc=>if (aI != (0:Int))=true then (j ((0:Int),aI) bc) else (M Pg 95 [.int .i64 (bf),.float .f64 (Ii)] (bB (B .i64) (B .i64)) bc fun a7 bZ=>j (a7.1,a7.2) bZ))
theorem aim{bf Ii w j}(h:VM bf Ii w j):M Pg 248 [.int .i64 bf,.float .f64 Ii] (bB (B .i64) (B .i64)) w j:=
 bu 23 Tryz.func248 rfl rfl bw
def VN(dc:aN)(fB:rT)(w:World)(j:Unit→World→Prop):Prop:=bQ 135 iQ fB w fun aA aY=>dw aY fun bc=>ex (bM dc) fun b2=>ex (L eC (b2.add 3) bc) fun bS=>ex (L (B .i64) ((aA.add 0).add 0) bc) fun cH=>HN iQ .i64 bS cH bc fun b6=>dw b6 fun cu=>ex (L eC (b2.add 4) cu) fun cQ=>ex (L (B .i64) ((aA.add 0).add 1) cu) fun fm=>HN (B .i64) .i64 cQ fm cu fun cA=>j () cA
theorem ain{dc fB w j}(h:VN dc fB w j):M Pg 249 [.pointer dc,iQ.enc fB] eh w j:=by
 have gC:=eI 2 (dJ [0,1,2,4,5,3,6,7] .l)
 have r0:=eI 3 (dJ [0,1,2,4,5,3,6,7] .l)
 exact bu 18 Tryz.func249 rfl rfl bw
def VP(fP:Int)(w:World)(j:Bool→World→Prop):Prop:=j ((decide (fP≥(0:Int)))&&(decide (fP≤(1125899906842624:Int)))) w
theorem aip{fP w j}(h:VP fP w j):M Pg 250 [.int .i64 fP] bo w j:=
 bu 9 Tryz.func250 rfl rfl bw
def VQ(bV:aN)(bt:Int)(w:World)(j:Int→World→Prop):Prop:=M Pg 224 [.int .i64 (bt)] bo w fun bq bl=>if (!bq)=true then (j (120:Int) bl) else (ex (bM bV) fun b1=>ex (L (B .i64) (b1.add 1) bl) fun b_=>bi (B .i64) (b1.add 1) (max b_ bt) bl fun bZ=>j (0:Int) bZ)
theorem aiq{bV bt w j}(h:VQ bV bt w j):M Pg 251 [.pointer bV,.int .i64 bt] (B .i64) w j:=
 bu 17 Tryz.func251 rfl rfl bw
def Np(b1:Addr)(fS:Addr)(cC:World)(mG:Unit→World→Prop)(j:Int→World→Prop):Prop:=lm fS cC fun aFs df=>if (Option.isSome aFs)=true then (ex (kA aE .i64 fS df) fun amN=>ex (L (B .i64) (b1.add 2) df) fun j2=>M Pg 261 [.pointer (amN.2),.int .i64 (j2)] (B .i64) df fun xh gb=>mG () gb) else (j (0:Int) df)
def VR(bV:aN)(pq:Int)(w:World)(j:Int→World→Prop):Prop:=M Pg 224 [.int .i64 (pq)] bo w fun bq bl=>if (!bq)=true then (j (120:Int) bl) else (ex (bM bV) fun b1=>ex (L (B .i64) (b1.add 1) bl) fun b_=>if (decide (pq>b_))=true then (j (128:Int) bl) else (ex (L (B .i64) (b1.add 2) bl) fun bS=>bi (B .i64) (b1.add 2) (max bS pq) bl fun bJ=>ex (L eC (b1.add 0) bJ) fun cJ=>Ik cJ bJ fun fS cu=>fh (fun (s:Unit) w ab=>Np b1 fS w ab j) () cu))
theorem air{bV pq w j}(h:VR bV pq w j):M Pg 252 [.pointer bV,.int .i64 pq] (B .i64) w j:=by
 have ju:=fun {b1} {fS}=>hJ (bC:=Unit) 8 (fun s w ab=>Np b1 fS w ab j) (fun g s=>ae (ae g 0 (.pointer bV)) 31 (.pointer (some fS)))
 exact bu 42 Tryz.func252 rfl rfl bw
def I2(aCc:af)(fX:World)(j:af→World→Prop):Prop:=j aCc fX
def VS(dc:aN)(fB:rT)(w:World)(j:af→World→Prop):Prop:=bQ 135 iQ fB w fun aA aY=>ex (L (B .i64) ((aA.add 0).add 1) aY) fun dQ=>ex (bM dc) fun b2=>ex (L aE ((b2.add 0).add 0) aY) fun bS=>M Pg 211 [.pointer (bS),.int .i64 (dQ)] (bB dR bo) aY fun dB bJ=>bQ 292 dR kD bJ fun e0 cV=>bi dR e0 dB.1 cV fun cC=>ex (L bo ((aA.add 0).add 3) cC) fun dP=>if (!dP)=true then (ex (L (B .i64) (e0.add 1) cC) fun eO=>ex (L (B .i64) ((aA.add 0).add 2) cC) fun ep=>tk 87 h2 [(⟨dQ,(IntKind.i64.wrap (eO+ep))⟩:fK)] cC fun iR db=>j (⟨some iR,1,1⟩:af) db) else (ex (L (B .i64) (e0.add 1) cC) fun cY=>ex (L (B .i64) ((aA.add 0).add 2) cC) fun hY=>ex (L (B .i64) (aA.add 5) cC) fun gq=>tk 87 h2 [(⟨dQ,(IntKind.i64.wrap ((IntKind.i64.wrap (cY-hY))-gq))⟩:fK)] cC fun hf fa=>ex (L (B .i64) (aA.add 5) fa) fun eE=>if (decide (eE>(0:Int)))=true then (ex (L aE ((b2.add 0).add 0) fa) fun gi=>M Pg 211 [.pointer (gi),.int .i64 ((IntKind.i64.wrap ((4096:Int)+dQ)))] (bB dR bo) fa fun ec gp=>bQ 292 dR kD gp fun wy gV=>bi dR wy ec.1 gV fun hX=>ex (L (B .i64) (wy.add 1) hX) fun kQ=>ex (L (B .i64) (aA.add 5) hX) fun mC=>mn 87 h2 2 16 (⟨some hf,1,1⟩:af) [(⟨(IntKind.i64.wrap ((4096:Int)+dQ)),(IntKind.i64.wrap (kQ+mC))⟩:fK)] hX fun eo lO=>I2 eo lO j) else (I2 (⟨some hf,1,1⟩:af) fa j))
theorem ais{dc fB w j}(h:VS dc fB w j):M Pg 253 [.pointer dc,iQ.enc fB] X w j:=by
 have jt:=iz (bC:=af) 10 (fun s w=>I2 s w j) (fun g s=>ae g 8 (X.enc s))
 exact bu 75 Tryz.func253 rfl rfl bw
def Nq(jD:cw)(nK:Int)(Q0:Int)(bc:World)(wi:Int×Int→World→Prop)(j:Int→World→Prop):Prop:=if (decide (nK<Q0))=true then (ex (jd (1:Int) (Int.fdiv (IntKind.u64.wrap (IntKind.i64.wrap (nK+Q0))) (2^(min ((1:Int)).toNat IntKind.u64.bits)))) fun d7=>tU Pg jD [.int .i64 ((IntKind.i64.wrap d7))] bo bc fun dB bJ=>if (!dB)=true then (wi ((IntKind.i64.wrap ((IntKind.i64.wrap d7)+(1:Int))),Q0) bJ) else (wi (nK,(IntKind.i64.wrap d7)) bJ)) else (j nK bc)
def VT(bf:Int)(jD:cw)(w:World)(j:Int→World→Prop):Prop:=fh (fun (s:Int×Int) w ab=>Nq jD s.1 s.2 w ab j) ((0:Int),bf) w
theorem ait{bf jD w j}(h:VT bf jD w j):M Pg 254 [.int .i64 bf,jD.enc] (B .i64) w j:=by
 have ju:=hJ (bC:=Int×Int) 3 (fun s w ab=>Nq jD s.1 s.2 w ab j) (fun g s=>ae (ae (ae g 1 (jD.enc)) 5 (.int .i64 (s.1))) 6 (.int .i64 (s.2)))
 exact bu 26 Tryz.func254 rfl rfl bw
def VU(Kz:Int)(bt:Addr)(b5:Addr)(w:World)(j:Bool→World→Prop):Prop:=dw w fun aY=>ex (L aE bt aY) fun dQ=>ex (bM dQ) fun b2=>ex (L X (b2.add 0) aY) fun bS=>ex (cT bS 2 Kz) fun cZ=>ex (L (B .i64) (cZ.add 0) aY) fun cJ=>ex (L (B .i64) b5 aY) fun dD=>j (decide (cJ>dD)) aY
theorem aiu{Kz bt b5 w j}(h:VU Kz bt b5 w j):M Pg 255 [.int .i64 Kz,.pointer (some bt),.pointer (some b5)] bo w j:=by
 have gC:=eI 2 (dJ [4,0,1,2,3,5,6,7,8,9,10] .l)
 exact bu 15 Tryz.func255 rfl rfl bw
def Nr(h4:Int)(bl:World)(j:(Nat×Bool)→World→Prop):Prop:=if (ga .neq (Int.toNat h4) (Int.toNat h4))=true then (j ((0:Nat),false) bl) else (j ((Int.toNat h4),true) bl)
def VV(tf:Int)(w:World)(j:(Nat×Bool)→World→Prop):Prop:=if (tf==(0:Int))=true then (j ((Int.toNat (9221120237041090561:Int)),true) w) else (ex (jd (63:Int) (Int.fdiv tf (2^(min ((63:Int)).toNat IntKind.u64.bits)))) fun d5=>if (d5==(1:Int))=true then (Nr (bits .andNot .u64 tf (9223372036854775808:Int)) w j) else (Nr (bits .xor .u64 IntKind.u64.max tf) w j))
theorem aiv{tf w j}(h:VV tf w j):M Pg 256 [.int .u64 tf] (bB g4 bo) w j:=by
 have jt:=iz (bC:=Int) 7 (fun s w=>Nr s w j) (fun g s=>ae g 4 (.int .u64 s))
 exact bu 22 Tryz.func256 rfl rfl bw
def VW(w1:Int)(w:World)(j:Bool→World→Prop):Prop:=j ((decide (w1≥(0:Int)))&&(decide (w1<(8192:Int)))) w
theorem aiw{w1 w j}(h:VW w1 w j):M Pg 258 [.int .i64 w1] bo w j:=
 bu 9 Tryz.func258 rfl rfl bw
def FM(zi:Bool)(bZ:World)(j:Bool→World→Prop):Prop:=j zi bZ
def VX(bV:aN)(yN:Int)(w:World)(j:Bool→World→Prop):Prop:=ex (bM bV) fun aA=>ex (L eC (aA.add 0) w) fun dk=>ex (iD aE .i64 dk yN w) fun jI=>if ((jI.getD (none:Option Addr),jI.isSome)).2=true then (M Pg 262 [.pointer (((jI.getD (none:Option Addr),jI.isSome)).1)] X w fun a6 b6=>FM (decide ((a6.len:Int)≥(10000:Int))) b6 j) else (FM false w j)
theorem aix{bV yN w j}(h:VX bV yN w j):M Pg 259 [.pointer bV,.int .i64 yN] bo w j:=by
 have rv:=sb (bC:=Bool) [2,3,4,5,6] [7] (fun s w=>FM s w j) (fun g s=>ae g 22 (.bool s))
 exact bu 23 Tryz.func259 rfl rfl bw
def I3(b5:Int)(aH6:Int)(bZ:World)(gN:Int×Int→World→Prop)(j:(Int×Int)→World→Prop):Prop:=gN (aH6,(IntKind.i64.wrap (b5+(1:Int)))) bZ
def Nt(gm:af)(Iw:Int)(b5:Int)(aY:World)(gN:Int×Int→World→Prop)(j:(Int×Int)→World→Prop):Prop:=if (decide (b5<(gm.len:Int)))=true then (ex (cT gm 1 b5) fun cZ=>ex (L (B .i64) cZ aY) fun cJ=>M Pg 213 [.int .i64 (cJ)] (B .i64) aY fun g8 cu=>if (g8 != (0:Int))=true then (j ((0:Int),(40:Int)) cu) else (if (decide (Iw≤(1000000000000000:Int)))=true then (I3 b5 (IntKind.i64.wrap (Iw+cJ)) cu gN j) else (I3 b5 Iw cu gN j))) else (M Pg 213 [.int .i64 (Iw)] (B .i64) aY fun fI df=>if (fI != (0:Int))=true then (j ((0:Int),(40:Int)) df) else (j (Iw,(0:Int)) df))
def VZ(gm:af)(w:World)(j:(Int×Int)→World→Prop):Prop:=fh (fun (s:Int×Int) w ab=>Nt gm s.1 s.2 w ab j) ((0:Int),(0:Int)) w
theorem aiz{gm w j}(h:VZ gm w j):M Pg 260 [X.enc gm] (bB (B .i64) (B .i64)) w j:=by
 have jt:=fun {b5} {gN}=>iz (bC:=Int) 10 (fun s w=>I3 b5 s w gN j) (fun g s=>ae (ae (ae (ae g 7 (X.enc gm)) 8 (.int .i64 ((gm.len:Int)))) 9 (.int .i64 b5)) 4 (.int .i64 s))
 have ju:=hJ (bC:=Int×Int) 4 (fun s w ab=>Nt gm s.1 s.2 w ab j) (fun g s=>ae (ae (ae (ae g 7 (X.enc gm)) 8 (.int .i64 ((gm.len:Int)))) 4 (.int .i64 (s.1))) 9 (.int .i64 (s.2)))
 exact bu 26 Tryz.func260 rfl rfl bw
def V0(aO:aN)(pq:Int)(w:World)(j:Int→World→Prop):Prop:=if ((decide (pq<(0:Int)))||(decide (pq>(1125899906842624:Int))))=true then (j (110:Int) w) else (ex (bM aO) fun aA=>ex (L (B .i64) (aA.add 1) w) fun dk=>bi (B .i64) (aA.add 1) (max dk pq) w fun bc=>ex (L (B .i64) (aA.add 1) bc) fun b_=>M Pg 226 [.pointer (aO),.int .i64 (b_)] (B .i64) bc fun a7 bZ=>ex (L X (aA.add 0) bZ) fun cJ=>yX 292 dR 16 kD (IntKind.i64.wrap ((cJ.len:Int)-(max (IntKind.i64.wrap (a7-(1:Int))) (0:Int)))) (IntKind.i64.wrap ((cJ.len:Int)-(max (IntKind.i64.wrap (a7-(1:Int))) (0:Int)))) bZ fun g8 cu=>ex (L X (aA.add 0) cu) fun fm=>ex (Sub fm 2 (max (IntKind.i64.wrap (a7-(1:Int))) (0:Int)) ((fm).len:Int) ((fm).cap:Int)) fun SK=>DQ dR 2 g8 SK cu fun fI df=>ex (Sub g8 2 0 (g8.len:Int) (g8.len:Int)) fun uD=>bi X (aA.add 0) uD df fun db=>j (0:Int) db)
theorem aiA{aO pq w j}(h:V0 aO pq w j):M Pg 261 [.pointer aO,.int .i64 pq] (B .i64) w j:=
 bu 55 Tryz.func261 rfl rfl bw
def V1(aO:aN)(w:World)(j:af→World→Prop):Prop:=ex (bM aO) fun a1=>ex (L X (a1.add 0) w) fun ej=>yX 292 dR 16 kD (ej.len:Int) (ej.len:Int) w fun bm aY=>ex (L X (a1.add 0) aY) fun b_=>DQ dR 2 bm b_ aY fun a7 bZ=>j bm bZ
theorem aiB{aO w j}(h:V1 aO w j):M Pg 262 [.pointer aO] X w j:=
 bu 17 Tryz.func262 rfl rfl bw
end bj
end Go.Proofs.YthaobmpdjcoheaaGreat
