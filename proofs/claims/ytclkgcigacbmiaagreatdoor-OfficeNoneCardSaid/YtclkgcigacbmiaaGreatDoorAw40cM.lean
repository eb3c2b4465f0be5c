/- The same where groups are copied for their value alone. -/
import Derived.Test.YtclkgcigacbmiaaGreatDoorAw40hM
set_option linter.unusedVariables false
set_option linter.unusedSimpArgs false
namespace Go.Proofs.YtclkgcigacbmiaaGreatDoor
open Go Go.RowKit Go.Proofs.Tryz
theorem hc0:au prog aT (hL hq0) f103=true:=by kernel_rfl
theorem hc1:au prog aT (hL hq1) f104=true:=by kernel_rfl
theorem hc2:au prog aT (hL hq2) f111=true:=by kernel_rfl
theorem hc3:au prog aT (hL hq3) f46=true:=by kernel_rfl
theorem hc4:au prog aT (hL hq4) f47=true:=by kernel_rfl
theorem hc5:au prog aT (hL hq5) f73=true:=by kernel_rfl
theorem hc6:au prog aT (hL hq6) f29=true:=by kernel_rfl
theorem hc7:au prog aT (hL hq7) f7=true:=by kernel_rfl
theorem hc8:au prog aT (hL hq8) f162=true:=by kernel_rfl
theorem hc9:au prog aT (hL hq9) f254=true:=by kernel_rfl
theorem Bj:au prog aT (hL ul) f274=true:=by kernel_rfl
theorem Bk:au prog aT (hL uo) f275=true:=by kernel_rfl
theorem Bl:au prog aT (hL uq) f174=true:=by kernel_rfl
theorem Bm:au prog aT (hL ur) f84=true:=by kernel_rfl
theorem Bn:au prog aT (hL ut) f96=true:=by kernel_rfl
theorem Bo:au prog aT (hL uu) f182=true:=by kernel_rfl
theorem Bp:au prog aT (hL uv) f279=true:=by kernel_rfl
theorem Bq:au prog aT (hL uw) f291=true:=by kernel_rfl
theorem Br:au prog aT (hL uy) f344=true:=by kernel_rfl
theorem Bs:au prog aT (hL uz) f177=true:=by kernel_rfl
theorem Bt:au prog aT (hL uA) f280=true:=by kernel_rfl
theorem Bu:au prog aT (hL uB) f273=true:=by kernel_rfl
theorem Bv:au prog aT (hL uC) f45=true:=by kernel_rfl
theorem Bw:au prog aT (hL uD) f191=true:=by kernel_rfl
theorem By:au prog aT (hL uE) f112=true:=by kernel_rfl
theorem Bz:au prog aT (hL uF) f193=true:=by kernel_rfl
theorem BA:au prog aT (hL uG) f63=true:=by kernel_rfl
theorem BB:au prog aT (hL uH) f358=true:=by kernel_rfl
theorem BC:au prog aT (hL uI) f446=true:=by kernel_rfl
theorem BD:au prog aT (hL uJ) f445=true:=by kernel_rfl
theorem BE:au prog aT (hL uK) f458=true:=by kernel_rfl
theorem BF:au prog aT (hL uL) f351=true:=by kernel_rfl
theorem BG:au prog aT (hL jY) f307=true:=by kernel_rfl
theorem BH:au prog aT (hL uM) f422=true:=by kernel_rfl
theorem BI:au prog aT (hL uN) f243=true:=by kernel_rfl
theorem BJ:au prog aT (hL uO) f359=true:=by kernel_rfl
theorem BK:au prog aT (hL uP) f27=true:=by kernel_rfl
theorem BL:au prog aT (hL uQ) f136=true:=by kernel_rfl
theorem BM:au prog aT (hL uR) f135=true:=by kernel_rfl
theorem BO:au prog aT (hL uS) f230=true:=by kernel_rfl
def hqc:List (Nat×Sw):=[(1,.take 0 (.take 1 (.take 3 (.take 4 (.take 6 (.take 8 (.alt 2 (.alt 5 (.take 7 (.take 9 (.take 10 (.alt 11 (.alt 12 (.nil) (.none)) (.none))))) (.alt 7 (.alt 5 (.take 9 (.take 10 (.alt 11 (.alt 12 (.nil) (.none)) (.none)))) (.alt 9 (.alt 5 (.take 10 (.alt 11 (.alt 12 (.nil) (.none)) (.none))) (.alt 11 (.alt 5 (.take 10 (.alt 12 (.nil) (.none))) (.none)) (.none))) (.alt 11 (.alt 5 (.take 9 (.take 10 (.alt 12 (.nil) (.none)))) (.alt 9 (.alt 5 (.take 10 (.alt 12 (.nil) (.none))) (.none)) (.none))) (.none)))) (.alt 9 (.alt 5 (.take 7 (.take 10 (.alt 11 (.alt 12 (.nil) (.none)) (.none)))) (.alt 7 (.alt 5 (.take 10 (.alt 11 (.alt 12 (.nil) (.none)) (.none))) (.alt 11 (.alt 5 (.take 10 (.alt 12 (.nil) (.none))) (.none)) (.none))) (.alt 11 (.alt 5 (.take 7 (.take 10 (.alt 12 (.nil) (.none)))) (.alt 7 (.alt 5 (.take 10 (.alt 12 (.nil) (.none))) (.none)) (.none))) (.none)))) (.alt 11 (.alt 5 (.take 7 (.take 9 (.take 10 (.alt 12 (.nil) (.none))))) (.alt 7 (.alt 5 (.take 9 (.take 10 (.alt 12 (.nil) (.none)))) (.alt 9 (.alt 5 (.take 10 (.alt 12 (.nil) (.none))) (.none)) (.none))) (.alt 9 (.alt 5 (.take 7 (.take 10 (.alt 12 (.nil) (.none)))) (.alt 7 (.alt 5 (.take 10 (.alt 12 (.nil) (.none))) (.none)) (.none))) (.none)))) (.none))))) (.alt 7 (.alt 2 (.alt 5 (.take 9 (.take 10 (.alt 11 (.alt 12 (.nil) (.none)) (.none)))) (.alt 9 (.alt 5 (.take 10 (.alt 11 (.alt 12 (.nil) (.none)) (.none))) (.alt 11 (.alt 5 (.take 10 (.alt 12 (.nil) (.none))) (.none)) (.none))) (.alt 11 (.alt 5 (.take 9 (.take 10 (.alt 12 (.nil) (.none)))) (.alt 9 (.alt 5 (.take 10 (.alt 12 (.nil) (.none))) (.none)) (.none))) (.none)))) (.alt 9 (.alt 2 (.alt 5 (.take 10 (.alt 11 (.alt 12 (.nil) (.none)) (.none))) (.alt 11 (.alt 5 (.take 10 (.alt 12 (.nil) (.none))) (.none)) (.none))) (.alt 11 (.alt 2 (.alt 5 (.take 10 (.alt 12 (.nil) (.none))) (.none)) (.none)) (.none))) (.alt 11 (.alt 2 (.alt 5 (.take 9 (.take 10 (.alt 12 (.nil) (.none)))) (.alt 9 (.alt 5 (.take 10 (.alt 12 (.nil) (.none))) (.none)) (.none))) (.alt 9 (.alt 2 (.alt 5 (.take 10 (.alt 12 (.nil) (.none))) (.none)) (.none)) (.none))) (.none)))) (.alt 9 (.alt 2 (.alt 5 (.take 7 (.take 10 (.alt 11 (.alt 12 (.nil) (.none)) (.none)))) (.alt 7 (.alt 5 (.take 10 (.alt 11 (.alt 12 (.nil) (.none)) (.none))) (.alt 11 (.alt 5 (.take 10 (.alt 12 (.nil) (.none))) (.none)) (.none))) (.alt 11 (.alt 5 (.take 7 (.take 10 (.alt 12 (.nil) (.none)))) (.alt 7 (.alt 5 (.take 10 (.alt 12 (.nil) (.none))) (.none)) (.none))) (.none)))) (.alt 7 (.alt 2 (.alt 5 (.take 10 (.alt 11 (.alt 12 (.nil) (.none)) (.none))) (.alt 11 (.alt 5 (.take 10 (.alt 12 (.nil) (.none))) (.none)) (.none))) (.alt 11 (.alt 2 (.alt 5 (.take 10 (.alt 12 (.nil) (.none))) (.none)) (.none)) (.none))) (.alt 11 (.alt 2 (.alt 5 (.take 7 (.take 10 (.alt 12 (.nil) (.none)))) (.alt 7 (.alt 5 (.take 10 (.alt 12 (.nil) (.none))) (.none)) (.none))) (.alt 7 (.alt 2 (.alt 5 (.take 10 (.alt 12 (.nil) (.none))) (.none)) (.none)) (.none))) (.none)))) (.alt 11 (.alt 2 (.alt 5 (.take 7 (.take 9 (.take 10 (.alt 12 (.nil) (.none))))) (.alt 7 (.alt 5 (.take 9 (.take 10 (.alt 12 (.nil) (.none)))) (.alt 9 (.alt 5 (.take 10 (.alt 12 (.nil) (.none))) (.none)) (.none))) (.alt 9 (.alt 5 (.take 7 (.take 10 (.alt 12 (.nil) (.none)))) (.alt 7 (.alt 5 (.take 10 (.alt 12 (.nil) (.none))) (.none)) (.none))) (.none)))) (.alt 7 (.alt 2 (.alt 5 (.take 9 (.take 10 (.alt 12 (.nil) (.none)))) (.alt 9 (.alt 5 (.take 10 (.alt 12 (.nil) (.none))) (.none)) (.none))) (.alt 9 (.alt 2 (.alt 5 (.take 10 (.alt 12 (.nil) (.none))) (.none)) (.none)) (.none))) (.alt 9 (.alt 2 (.alt 5 (.take 7 (.take 10 (.alt 12 (.nil) (.none)))) (.alt 7 (.alt 5 (.take 10 (.alt 12 (.nil) (.none))) (.none)) (.none))) (.alt 7 (.alt 2 (.alt 5 (.take 10 (.alt 12 (.nil) (.none))) (.none)) (.none)) (.none))) (.none)))) (.none))))))))))),(5,.take 0 (.take 2 (.alt 1 (.alt 3 (.alt 4 (.alt 5 (.take 6 (.alt 7 (.nil) (.none))) (.none)) (.none)) (.none)) (.alt 3 (.take 1 (.alt 4 (.alt 5 (.take 6 (.alt 7 (.nil) (.none))) (.none)) (.none))) (.none))))),(10,.take 0 (.take 2 (.alt 1 (.alt 3 (.alt 4 (.alt 5 (.take 6 (.alt 7 (.nil) (.none))) (.none)) (.none)) (.none)) (.alt 3 (.take 1 (.alt 4 (.alt 5 (.take 6 (.alt 7 (.nil) (.none))) (.none)) (.none))) (.none)))))]
theorem BP:au prog aT (hL hqc) f68=true:=by kernel_rfl
theorem BQ:au prog aT (hL uT) f132=true:=by kernel_rfl
theorem BR:au prog aT (hL uU) f66=true:=by kernel_rfl
theorem BS:au prog aT (hL uV) f142=true:=by kernel_rfl
theorem BT:au prog aT (hL uW) f70=true:=by kernel_rfl
theorem BU:au prog aT (hL uX) f237=true:=by kernel_rfl
theorem BV:au prog aT (hL uY) f196=true:=by kernel_rfl
theorem BW:au prog aT (hL uZ) f285=true:=by kernel_rfl
theorem BX:au prog aT (hL u0) f289=true:=by kernel_rfl
theorem BY:au prog aT (hL u3) f286=true:=by kernel_rfl
theorem BZ:au prog aT (hL u4) f6=true:=by kernel_rfl
theorem B6:au prog aT (hL u5) f363=true:=by kernel_rfl
theorem B7:au prog aT (hL u6) f424=true:=by kernel_rfl
theorem B8:au prog aT (hL u7) f215=true:=by kernel_rfl
theorem B9:au prog aT (hL u9) f95=true:=by kernel_rfl
theorem Ca:au prog aT (hL vd) f384=true:=by kernel_rfl
theorem Cb:au prog aT (hL ve) f447=true:=by kernel_rfl
theorem Cc:au prog aT (hL vf) f292=true:=by kernel_rfl
theorem Cd:au prog aT (hL vg) f453=true:=by kernel_rfl
def yZ:HT prog aT:=HTl [(103,hq0),(104,hq1),(111,hq2),(46,hq3),(47,hq4),(73,hq5),(29,hq6),(7,hq7),(162,hq8),(254,hq9),(274,ul),(275,uo),(174,uq),(84,ur),(96,ut),(182,uu),(279,uv),(291,uw),(344,uy),(177,uz),(280,uA),(273,uB),(45,uC),(191,uD),(112,uE),(193,uF),(63,uG),(358,uH),(446,uI),(445,uJ),(458,uK),(351,uL),(307,jY),(422,uM),(243,uN),(359,uO),(27,uP),(136,uQ),(135,uR),(230,uS),(68,hqc),(132,uT),(66,uU),(142,uV),(70,uW),(237,uX),(196,uY),(285,uZ),(289,u0),(286,u3),(6,u4),(363,u5),(424,u6),(215,u7),(95,u9),(384,vd),(447,ve),(292,vf),(453,vg)] ⟨⟨_,func103,hc0⟩,⟨_,func104,hc1⟩,⟨_,func111,hc2⟩,⟨_,func46,hc3⟩,⟨_,func47,hc4⟩,⟨_,func73,hc5⟩,⟨_,func29,hc6⟩,⟨_,func7,hc7⟩,⟨_,func162,hc8⟩,⟨_,func254,hc9⟩,⟨_,func274,Bj⟩,⟨_,func275,Bk⟩,⟨_,func174,Bl⟩,⟨_,func84,Bm⟩,⟨_,func96,Bn⟩,⟨_,func182,Bo⟩,⟨_,func279,Bp⟩,⟨_,func291,Bq⟩,⟨_,func344,Br⟩,⟨_,func177,Bs⟩,⟨_,func280,Bt⟩,⟨_,func273,Bu⟩,⟨_,func45,Bv⟩,⟨_,func191,Bw⟩,⟨_,func112,By⟩,⟨_,func193,Bz⟩,⟨_,func63,BA⟩,⟨_,func358,BB⟩,⟨_,func446,BC⟩,⟨_,func445,BD⟩,⟨_,func458,BE⟩,⟨_,func351,BF⟩,⟨_,func307,BG⟩,⟨_,func422,BH⟩,⟨_,func243,BI⟩,⟨_,func359,BJ⟩,⟨_,func27,BK⟩,⟨_,func136,BL⟩,⟨_,func135,BM⟩,⟨_,func230,BO⟩,⟨_,func68,BP⟩,⟨_,func132,BQ⟩,⟨_,func66,BR⟩,⟨_,func142,BS⟩,⟨_,func70,BT⟩,⟨_,func237,BU⟩,⟨_,func196,BV⟩,⟨_,func285,BW⟩,⟨_,func289,BX⟩,⟨_,func286,BY⟩,⟨_,func6,BZ⟩,⟨_,func363,B6⟩,⟨_,func424,B7⟩,⟨_,func215,B8⟩,⟨_,func95,B9⟩,⟨_,func384,Ca⟩,⟨_,func447,Cb⟩,⟨_,func292,Cc⟩,⟨_,func453,Cd⟩,trivial⟩
end Go.Proofs.YtclkgcigacbmiaaGreatDoor
