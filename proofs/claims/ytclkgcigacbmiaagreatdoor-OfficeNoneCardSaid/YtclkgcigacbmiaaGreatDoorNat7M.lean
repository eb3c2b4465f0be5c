/- natural: FromUint, Add, subtract, Subtract: walked. -/
import Derived.Test.YtclkgcigacbmiaaGreatDoorEv4M
import Derived.Deep.CutBlock
import Derived.Deep.DeepCutAuto
import Derived.Shelf.Small.Bits
import Derived.Shelf.Small.Strs
import Derived.Test.YtclkgcigacbmiaaGreatDoorProg
import Derived.Lib.BitFns
import Derived.StillTailTactics
set_option linter.unusedVariables false
set_option maxHeartbeats 2000000
set_option maxRecDepth 100000
set_option linter.unusedSimpArgs false
set_option linter.unusedSectionVars false
namespace Go.Proofs.YtclkgcigacbmiaaGreatDoor
open Go.RowKit Go.Proofs.Tryz
def xZ (n:Nat):Nat:=(aI n).length
theorem eb (n:Nat):(ab n).length<=xZ n:=by
 apply aW;have h:=eO n;have:256^(aI n).length<=4294967296^(aI n).length:=Nat.pow_le_pow_left (by decide) _;unfold xZ;omega
theorem aX (ys:List Nat) (k:Nat):aa (ys.take (k+1))=aa (ys.take k)+4294967296^k*ys.getD k 0:=by
 by_cases h:k<ys.length
 ·rw [aK ys k h];simp [List.getD,h]
 rw [List.take_of_length_le (by omega),List.take_of_length_le (by omega)];simp [List.getD,List.getElem?_eq_none (by omega:ys.length<=k)]
theorem cK {f:Nat->Value} {ds:List Nat} {k:Nat} (hk:ds.length=k) (h:∀j,f j= .int .u32 ((ds.getD j 0:Nat):Int)) (d:Nat):∀j,upd f k (.int .u32 (d:Int)) j= .int .u32 (((ds++[d]).getD j 0:Nat):Int):=by
 intro j;unfold upd;by_cases hj:j=k
 ·rw [if_pos hj,hj,←hk];simp [List.getD]
 rw [if_neg hj,h j];congr 2;rcases Nat.lt_or_gt_of_ne hj with h1|h1
 ·simp [List.getD,List.getElem?_append_left (by omega:j<ds.length)]
 simp [List.getD,List.getElem?_eq_none (by omega:ds.length<=j),List.getElem?_eq_none (by simp;omega:(ds++[d]).length<=j)]
theorem bV {w:World} {g E n:Nat} {f:Nat->Value} {ds:List Nat} (h:Own w g E n f) (hf:∀j,f j= .int .u32 ((ds.getD j 0:Nat):Int)) (hl:ds.length=n) (hn:n<=9223372036854775807) (hd:∀x∈ds,x<4294967296):
  al 1 aE w (LT w.heap.size) [.slice (some ⟨g,0,none⟩) n n] ds:=by
 refine h.reads hl (by unfold maxLen;omega) fun j hj=>⟨?_,hd _ (List.getElem_mem hj)⟩
 rw [hf j];simp [List.getD,hj]
theorem gk (u:Nat) (w:World) (hu:u<18446744073709551616):
  Calls prog 278 #[.int .u64 u] w fun e w'=>e= .returned (.string (ae u))/\Below w.heap.size w w':=by
 have e1:aa [u%4294967296,u/4294967296]=u:=by simp [aa];omega
 have hR:∀o:World,Own o w.heap.size 233 2 (fun j=> .int .u32 (([u%4294967296,u/4294967296]:List Nat).getD j 0:Nat))->al 1 aE o (LT o.heap.size) [.slice (some ⟨w.heap.size,0,none⟩) 2 2] [u%4294967296,u/4294967296]:=fun o ho=>
  bV ho (fun _=>rfl) rfl (by omega) (by intro x hx;simp at hx;omega)
 have hO:Own (w.alloc (.cells #[.int .u32 ((u:Int)%4294967296),.int .u32 ((u:Int)/4294967296)] 233)) w.heap.size 233 2 (fun j=> .int .u32 (([u%4294967296,u/4294967296]:List Nat).getD j 0:Nat)):=by
  have:=Own.new w 233 2 (fun j=> .int .u32 (([u%4294967296,u/4294967296]:List Nat).getD j 0:Nat));have e:(Array.range 2).map (fun j=>Value.int .u32 (([u%4294967296,u/4294967296]:List Nat).getD j 0:Nat))= #[.int .u32 ((u:Int)%4294967296),.int .u32 ((u:Int)/4294967296)]:=by
   apply Array.ext';simp [List.range_succ]
  rw [e] at this;exact this
 have HT:=hid (cI _ _ _ _ (fun _ h=>h) (by simp) (hR _ hO));rw [e1] at HT;clear hR hO e1;go_enter func278,ntmps278
 go_wp2_with fail
 refine Calls.mono HT.out ?_;rintro e w1 ⟨rfl,hb1⟩;go_wp2
 go_ret
 exact ⟨rfl,((Below.refl w.heap.size w).alloc (Nat.le_refl _) _).step hb1⟩
theorem oR (a b:ByteArray) (w:World) (ha:a.size<=500000000000) (hb:b.size<=500000000000):
  Calls prog 270 #[.string a,.string b] w fun e w'=>e= .returned (.string (ae (ac a+ac b)))/\Below w.heap.size w w':=by
 have la:(ab (ac a)).length<=500000000000:=by
  refine Nat.le_trans (eb _) (Nat.le_trans ?_ ha);exact aA (bD a)
 have lb:(ab (ac b)).length<=500000000000:=by
  refine Nat.le_trans (eb _) (Nat.le_trans ?_ hb);exact aA (bD b)
 have va:=hid (ah (ac a));have vb:=hid (ah (ac b));have H1:=hid (bw a w (by omega));go_enter func270,ntmps270
 go_wp2_with fail
 refine Calls.mono H1.out ?_;rintro e w1 ⟨p,rfl,hp,hb1⟩;go_wp2_with fail
 refine (bw b w1 (by omega)).mono ?_;rintro e w2 ⟨q,rfl,hq,hb2⟩;have hp2:=(aq ay).below hp hb2 hb2.size;clear hp;have hbel:=hb1.step hb2;obtain ⟨pa,pc,rfl,p1,p2,p3,p4⟩:=aw hp2;obtain ⟨qa,qc,rfl,q1,q2,q3,q4⟩:=aw hq;by_cases hl:(ab (ac a)).length<(ab (ac b)).length
 ·skip;obtain ⟨m,hm⟩:∃m:Nat,m=(ab (ac b)).length+1:=⟨_,rfl⟩;have hm1:((ab (ac b)).length:Int)+1=(m:Int):=by omega
  have hmk:=fun (w:World)=>bo (P:=prog) underlying363 Tryz.infoU32 rfl w m (by omega) (by omega)
  have HM:=hid hm;clear hm;go_wp2
  clear hmk;go_loopw [8,9,10,28] (fun c _ _ i wr=>∃(k c':Nat) (ds:List Nat) (f:Nat->Value),k<=(ab (ac b)).length/\i= .int .i64 k/\c= .int .u32 (c':Int)/\c'<=1/\Below w.heap.size w wr/\w2.heap.size<wr.heap.size/\Below w2.heap.size w2 wr/\Own wr w2.heap.size 233 m f/\Hid (∀j,f j= .int .u32 ((ds.getD j 0:Nat):Int))/\Hid (ds.length=k)/\Hid (∀x∈ds,x<4294967296)/\
   Hid (aa ds+4294967296^k*c'=aa ((ab (ac b)).take k)+aa ((ab (ac a)).take k))) (fun _ _ _ i _=>(ab (ac b)).length-(intOf i).toNat)
  case atStart=>exact ⟨0,0,[],_,Nat.zero_le _,rfl,rfl,by omega,hbel.alloc hbel.size _,by simp,(Below.refl _ _).alloc (Nat.le_refl _) _,Own.new _ _ _ _,fun j=>by simp,rfl,fun x hx=>by simp at hx,by simp [Hid,aa]⟩
  case round=>
   obtain ⟨k,c',ds,f,hk,rfl,rfl,hc',hbw,hsz,hbw2,hown,HF,HL,HD,HV⟩:=hrel;by_cases hlt:k<(ab (ac b)).length
   ·have hkm:k<m:=by have:=HM.out;omega
    rcases q4 with h0|⟨b1,off1,rfl,x4⟩
    ·rw [h0] at hlt;simp at hlt
    obtain ⟨g0,g1⟩:=x4.u32 hlt;rw [←hbw2.cell (p:=⟨b1,off1+k,none⟩) x4.1] at g0;have c1:=hown.cell hkm;rw [HF.out k] at c1;have c2:=hown.frozen k;have e1:=aX (ab (ac b)) k;have e2:=aX (ab (ac a)) k;have ex:(ab (ac b)).getD k 0=(ab (ac b))[k]:=by simp [List.getD,hlt]
    rw [ex] at e1;have E1:=hid e1;have E2:=hid e2;clear e1 e2 ex;by_cases hy:k<(ab (ac a)).length
    ·rcases p4 with h0|⟨b2,off2,rfl,y4⟩
     ·rw [h0] at hy;simp at hy
     obtain ⟨f0,f1⟩:=y4.u32 hy;rw [←hbw2.cell (p:=⟨b2,off2+k,none⟩) y4.1] at f0;have ey:=hid (show (ab (ac a)).getD k 0=(ab (ac a))[k] by simp [List.getD,hy]);obtain ⟨d,hd⟩:∃d:Nat,(d:Int)=(((ab (ac b))[k]:Int)+((ab (ac a))[k]:Int)+(c':Int))%4294967296:=⟨(((ab (ac b))[k]+(ab (ac a))[k]+c')%4294967296),by omega⟩;obtain ⟨e,he⟩:∃e:Nat,(e:Int)=(((ab (ac b))[k]:Int)+((ab (ac a))[k]:Int)+(c':Int))/4294967296:=⟨(((ab (ac b))[k]+(ab (ac a))[k]+c')/4294967296),by omega⟩;have hde:d+4294967296*e=(ab (ac b))[k]+(ab (ac a))[k]+c':=by omega
     have hd1:d<4294967296:=by omega
     have he1:e<=1:=by omega
     have HA:=hid (dQ ((ab (ac b))[k]:Int) ((ab (ac a))[k]:Int) (c':Int) wr (by omega) (by omega) (by omega) (by omega) (by omega) (by omega));rw [←hd,←he] at HA;have HDE:=hid hde;clear hd he hde;go_wp2_with fail
     refine Calls.mono HA.out ?_;rintro e' w3 ⟨rfl,rfl⟩;clear HA;go_wp2
     go_roundw
     case rel=>
      refine ⟨k+1,e,ds++[d],upd f k (.int .u32 d),by omega,by go_num,rfl,he1,hbw.setCell (by simpa using hbel.size) _,by simpa using hsz,hbw2.setCell (Nat.le_refl _) _,hown.set _ _,cK HL.out HF.out d,?_,?_,?_⟩
      ·show (ds++[d]).length=k+1;simp [HL.out]
      ·intro x hx;rcases List.mem_append.1 hx with h|h
       ·exact HD.out x h
       simp at h;omega
      show aa (ds++[d])+4294967296^(k+1)*e=_;rw [ap,HL.out,E1.out,E2.out,ey.out,Nat.pow_succ,Nat.mul_assoc];have h1:=HV.out;have h2:4294967296^k*d+4294967296^k*(4294967296*e)=4294967296^k*(ab (ac b))[k]+4294967296^k*(ab (ac a))[k]+4294967296^k*c':=by rw [←Nat.mul_add,HDE.out,Nat.mul_add,Nat.mul_add]
      omega
     case measure=>simp [intOf];omega
    have ey:=hid (show (ab (ac a)).getD k 0=0 by simp [List.getD,List.getElem?_eq_none (by omega:(ab (ac a)).length<=k)]);obtain ⟨d,hd⟩:∃d:Nat,(d:Int)=(((ab (ac b))[k]:Int)+0+(c':Int))%4294967296:=⟨(((ab (ac b))[k]+c')%4294967296),by omega⟩;obtain ⟨e,he⟩:∃e:Nat,(e:Int)=(((ab (ac b))[k]:Int)+0+(c':Int))/4294967296:=⟨(((ab (ac b))[k]+c')/4294967296),by omega⟩;have hde:d+4294967296*e=(ab (ac b))[k]+c':=by omega
    have hd1:d<4294967296:=by omega
    have he1:e<=1:=by omega
    have HA:=hid (dQ ((ab (ac b))[k]:Int) 0 (c':Int) wr (by omega) (by omega) (by omega) (by omega) (by omega) (by omega));rw [←hd,←he] at HA;have HDE:=hid hde;clear hd he hde;go_wp2_with fail
    refine Calls.mono HA.out ?_;rintro e' w3 ⟨rfl,rfl⟩;clear HA;go_wp2
    go_roundw
    case rel=>
     refine ⟨k+1,e,ds++[d],upd f k (.int .u32 d),by omega,by go_num,rfl,he1,hbw.setCell (by simpa using hbel.size) _,by simpa using hsz,hbw2.setCell (Nat.le_refl _) _,hown.set _ _,cK HL.out HF.out d,?_,?_,?_⟩
     ·show (ds++[d]).length=k+1;simp [HL.out]
     ·intro x hx;rcases List.mem_append.1 hx with h|h
      ·exact HD.out x h
      simp at h;omega
     show aa (ds++[d])+4294967296^(k+1)*e=_;rw [ap,HL.out,E1.out,E2.out,ey.out,Nat.pow_succ,Nat.mul_assoc];have h1:=HV.out;have h2:4294967296^k*d+4294967296^k*(4294967296*e)=4294967296^k*(ab (ac b))[k]+4294967296^k*c':=by rw [←Nat.mul_add,HDE.out,Nat.mul_add]
     omega
    case measure=>simp [intOf];omega
   have hk':k=(ab (ac b)).length:=by omega
   have hkm:(ab (ac b)).length<m:=by have:=HM.out;omega
   have hs:aa (ds++[c'])=ac a+ac b:=by
    have h1:=HV.out;rw [List.take_of_length_le (by omega),List.take_of_length_le (by omega),va.out,vb.out] at h1;rw [ap,HL.out];omega
   have HR:=hid (fun ww (h:Own ww w2.heap.size 233 m (upd f (ab (ac b)).length (.int .u32 c')))=>cI _ _ (ds++[c']) _ (fun _ h=>h) (by simp [HL.out];have:=HM.out;omega) (bV h (by rw [←hk'];exact cK HL.out HF.out c') (by simp [HL.out];have:=HM.out;omega) (by omega) (by intro x hx;rcases List.mem_append.1 hx with h|h;exact HD.out x h;simp at h;omega)));rw [hs] at HR;have c1:=hown.cell hkm;rw [HF.out] at c1;have c2:=hown.frozen (ab (ac b)).length;clear hs hk';go_wp2_with fail
   refine Calls.mono (HR.out _ (hown.set _ _)) ?_;rintro e' w3 ⟨rfl,hb3⟩;go_wp2
   go_ret
   exact ⟨rfl,(hbw.setCell (p:=⟨w2.heap.size,_,none⟩) hbel.size _).step hb3⟩
 skip;obtain ⟨m,hm⟩:∃m:Nat,m=(ab (ac a)).length+1:=⟨_,rfl⟩;have hm1:((ab (ac a)).length:Int)+1=(m:Int):=by omega
 have hmk:=fun (w:World)=>bo (P:=prog) underlying363 Tryz.infoU32 rfl w m (by omega) (by omega)
 have HM:=hid hm;clear hm;go_wp2
 clear hmk;go_loopw [8,9,10,28] (fun c _ _ i wr=>∃(k c':Nat) (ds:List Nat) (f:Nat->Value),k<=(ab (ac a)).length/\i= .int .i64 k/\c= .int .u32 (c':Int)/\c'<=1/\Below w.heap.size w wr/\w2.heap.size<wr.heap.size/\Below w2.heap.size w2 wr/\Own wr w2.heap.size 233 m f/\Hid (∀j,f j= .int .u32 ((ds.getD j 0:Nat):Int))/\Hid (ds.length=k)/\Hid (∀x∈ds,x<4294967296)/\
  Hid (aa ds+4294967296^k*c'=aa ((ab (ac a)).take k)+aa ((ab (ac b)).take k))) (fun _ _ _ i _=>(ab (ac a)).length-(intOf i).toNat)
 case atStart=>exact ⟨0,0,[],_,Nat.zero_le _,rfl,rfl,by omega,hbel.alloc hbel.size _,by simp,(Below.refl _ _).alloc (Nat.le_refl _) _,Own.new _ _ _ _,fun j=>by simp,rfl,fun x hx=>by simp at hx,by simp [Hid,aa]⟩
 case round=>
  obtain ⟨k,c',ds,f,hk,rfl,rfl,hc',hbw,hsz,hbw2,hown,HF,HL,HD,HV⟩:=hrel;by_cases hlt:k<(ab (ac a)).length
  ·have hkm:k<m:=by have:=HM.out;omega
   rcases p4 with h0|⟨b1,off1,rfl,x4⟩
   ·rw [h0] at hlt;simp at hlt
   obtain ⟨g0,g1⟩:=x4.u32 hlt;rw [←hbw2.cell (p:=⟨b1,off1+k,none⟩) x4.1] at g0;have c1:=hown.cell hkm;rw [HF.out k] at c1;have c2:=hown.frozen k;have e1:=aX (ab (ac a)) k;have e2:=aX (ab (ac b)) k;have ex:(ab (ac a)).getD k 0=(ab (ac a))[k]:=by simp [List.getD,hlt]
   rw [ex] at e1;have E1:=hid e1;have E2:=hid e2;clear e1 e2 ex;by_cases hy:k<(ab (ac b)).length
   ·rcases q4 with h0|⟨b2,off2,rfl,y4⟩
    ·rw [h0] at hy;simp at hy
    obtain ⟨f0,f1⟩:=y4.u32 hy;rw [←hbw2.cell (p:=⟨b2,off2+k,none⟩) y4.1] at f0;have ey:=hid (show (ab (ac b)).getD k 0=(ab (ac b))[k] by simp [List.getD,hy]);obtain ⟨d,hd⟩:∃d:Nat,(d:Int)=(((ab (ac a))[k]:Int)+((ab (ac b))[k]:Int)+(c':Int))%4294967296:=⟨(((ab (ac a))[k]+(ab (ac b))[k]+c')%4294967296),by omega⟩;obtain ⟨e,he⟩:∃e:Nat,(e:Int)=(((ab (ac a))[k]:Int)+((ab (ac b))[k]:Int)+(c':Int))/4294967296:=⟨(((ab (ac a))[k]+(ab (ac b))[k]+c')/4294967296),by omega⟩;have hde:d+4294967296*e=(ab (ac a))[k]+(ab (ac b))[k]+c':=by omega
    have hd1:d<4294967296:=by omega
    have he1:e<=1:=by omega
    have HA:=hid (dQ ((ab (ac a))[k]:Int) ((ab (ac b))[k]:Int) (c':Int) wr (by omega) (by omega) (by omega) (by omega) (by omega) (by omega));rw [←hd,←he] at HA;have HDE:=hid hde;clear hd he hde;go_wp2_with fail
    refine Calls.mono HA.out ?_;rintro e' w3 ⟨rfl,rfl⟩;clear HA;go_wp2
    go_roundw
    case rel=>
     refine ⟨k+1,e,ds++[d],upd f k (.int .u32 d),by omega,by go_num,rfl,he1,hbw.setCell (by simpa using hbel.size) _,by simpa using hsz,hbw2.setCell (Nat.le_refl _) _,hown.set _ _,cK HL.out HF.out d,?_,?_,?_⟩
     ·show (ds++[d]).length=k+1;simp [HL.out]
     ·intro x hx;rcases List.mem_append.1 hx with h|h
      ·exact HD.out x h
      simp at h;omega
     show aa (ds++[d])+4294967296^(k+1)*e=_;rw [ap,HL.out,E1.out,E2.out,ey.out,Nat.pow_succ,Nat.mul_assoc];have h1:=HV.out;have h2:4294967296^k*d+4294967296^k*(4294967296*e)=4294967296^k*(ab (ac a))[k]+4294967296^k*(ab (ac b))[k]+4294967296^k*c':=by rw [←Nat.mul_add,HDE.out,Nat.mul_add,Nat.mul_add]
     omega
    case measure=>simp [intOf];omega
   have ey:=hid (show (ab (ac b)).getD k 0=0 by simp [List.getD,List.getElem?_eq_none (by omega:(ab (ac b)).length<=k)]);obtain ⟨d,hd⟩:∃d:Nat,(d:Int)=(((ab (ac a))[k]:Int)+0+(c':Int))%4294967296:=⟨(((ab (ac a))[k]+c')%4294967296),by omega⟩;obtain ⟨e,he⟩:∃e:Nat,(e:Int)=(((ab (ac a))[k]:Int)+0+(c':Int))/4294967296:=⟨(((ab (ac a))[k]+c')/4294967296),by omega⟩;have hde:d+4294967296*e=(ab (ac a))[k]+c':=by omega
   have hd1:d<4294967296:=by omega
   have he1:e<=1:=by omega
   have HA:=hid (dQ ((ab (ac a))[k]:Int) 0 (c':Int) wr (by omega) (by omega) (by omega) (by omega) (by omega) (by omega));rw [←hd,←he] at HA;have HDE:=hid hde;clear hd he hde;go_wp2_with fail
   refine Calls.mono HA.out ?_;rintro e' w3 ⟨rfl,rfl⟩;clear HA;go_wp2
   go_roundw
   case rel=>
    refine ⟨k+1,e,ds++[d],upd f k (.int .u32 d),by omega,by go_num,rfl,he1,hbw.setCell (by simpa using hbel.size) _,by simpa using hsz,hbw2.setCell (Nat.le_refl _) _,hown.set _ _,cK HL.out HF.out d,?_,?_,?_⟩
    ·show (ds++[d]).length=k+1;simp [HL.out]
    ·intro x hx;rcases List.mem_append.1 hx with h|h
     ·exact HD.out x h
     simp at h;omega
    show aa (ds++[d])+4294967296^(k+1)*e=_;rw [ap,HL.out,E1.out,E2.out,ey.out,Nat.pow_succ,Nat.mul_assoc];have h1:=HV.out;have h2:4294967296^k*d+4294967296^k*(4294967296*e)=4294967296^k*(ab (ac a))[k]+4294967296^k*c':=by rw [←Nat.mul_add,HDE.out,Nat.mul_add]
    omega
   case measure=>simp [intOf];omega
  have hk':k=(ab (ac a)).length:=by omega
  have hkm:(ab (ac a)).length<m:=by have:=HM.out;omega
  have hs:aa (ds++[c'])=ac a+ac b:=by
   have h1:=HV.out;rw [List.take_of_length_le (by omega),List.take_of_length_le (by omega),va.out,vb.out] at h1;rw [ap,HL.out];omega
  have HR:=hid (fun ww (h:Own ww w2.heap.size 233 m (upd f (ab (ac a)).length (.int .u32 c')))=>cI _ _ (ds++[c']) _ (fun _ h=>h) (by simp [HL.out];have:=HM.out;omega) (bV h (by rw [←hk'];exact cK HL.out HF.out c') (by simp [HL.out];have:=HM.out;omega) (by omega) (by intro x hx;rcases List.mem_append.1 hx with h|h;exact HD.out x h;simp at h;omega)));rw [hs] at HR;have c1:=hown.cell hkm;rw [HF.out] at c1;have c2:=hown.frozen (ab (ac a)).length;clear hs hk';go_wp2_with fail
  refine Calls.mono (HR.out _ (hown.set _ _)) ?_;rintro e' w3 ⟨rfl,hb3⟩;go_wp2
  go_ret
  exact ⟨rfl,(hbw.setCell (p:=⟨w2.heap.size,_,none⟩) hbel.size _).step hb3⟩
theorem bb (a:ByteArray):(ab (ac a)).length<=a.size:=Nat.le_trans (eb _) (aA (bD a))
theorem li (S : Nat → Prop) (u v : Value) (x y : Nat) (w : World) (hS : ∀ b, S b → b < w.heap.size) (hl : (ab x).length ≤ 1000000000000) (hyx : y ≤ x) (hu : al 1 aE w S [u] (ab x)) (hv : al 1 aE w S [v] (ab y)) :
    Calls prog 335 #[u, v] w fun e w' => ∃ r, e = .returned r ∧ al 1 aE w' (LT w'.heap.size) [r] (ab (x - y)) ∧ Below w.heap.size w w' := by
  have hxlt := hid (aB x)
  have hylt := hid (aB y)
  have vx := hid (ah x)
  have vy := hid (ah y)
  have hylen : (ab y).length ≤ (ab x).length := by
    rcases Nat.lt_or_ge (ab x).length (ab y).length with h | h
    · have := co h; omega
    exact h
  obtain ⟨xa, xc, rfl, x1, x2, x3, x4⟩ := aw hu
  obtain ⟨ya, yc, rfl, y1, y2, y3, y4⟩ := aw hv
  generalize ab x = xs at *
  generalize ab y = ys at *
  have hn := cc x1 x2
  have hmk := fun (w : World) => bo (P := prog) underlying363 Tryz.infoU32 rfl w xs.length (by omega) (by omega)
  go_enter func335, ntmps335
  go_wp2
  clear hmk
  go_loopw [6, 7, 8, 14] (fun c _ _ i wr => ∃ (k c' : Nat) (ds : List Nat) (f : Nat → Value), k ≤ xs.length ∧ i = .int .i64 k ∧ c = .int .u32 (c' : Int) ∧ c' ≤ 1 ∧ Below w.heap.size w wr ∧ w.heap.size < wr.heap.size ∧ Own wr w.heap.size 233 xs.length f ∧ Hid (∀ j, f j = .int .u32 ((ds.getD j 0 : Nat) : Int)) ∧ Hid (ds.length = k) ∧ Hid (∀ x ∈ ds, x < 4294967296) ∧
      Hid (aa ds + aa (ys.take k) = aa (xs.take k) + 4294967296 ^ k * c')) (fun _ _ _ i _ => xs.length - (intOf i).toNat)
  case atStart => exact ⟨0, 0, [], _, Nat.zero_le _, rfl, rfl, by omega, (Below.refl _ _).alloc (Nat.le_refl _) _, by simp, Own.new _ _ _ _, fun j => by simp, rfl, fun x hx => by simp at hx, by simp [Hid, aa]⟩
  case round =>
    obtain ⟨k, c', ds, f, hk, rfl, rfl, hc', hbw, hsz, hown, HF, HL, HD, HV⟩ := hrel
    by_cases hlt : k < xs.length
    · rcases x4 with rfl | ⟨b1, off1, rfl, x4⟩
      · simp at hlt
      obtain ⟨g0, g1⟩ := x4.u32 hlt
      rw [← hbw.cell (p := ⟨b1, off1 + k, none⟩) (hS _ x4.1)] at g0
      have c1 := hown.cell hlt
      rw [HF.out k] at c1
      have c2 := hown.frozen k
      have e1 := aX xs k
      have e2 := aX ys k
      have ex : xs.getD k 0 = xs[k] := by simp [List.getD, hlt]
      rw [ex] at e1
      have E1 := hid e1
      have E2 := hid e2
      clear e1 e2 ex
      by_cases hy : k < ys.length
      · rcases y4 with rfl | ⟨b2, off2, rfl, y4⟩
        · simp at hy
        obtain ⟨f0, f1⟩ := y4.u32 hy
        rw [← hbw.cell (p := ⟨b2, off2 + k, none⟩) (hS _ y4.1)] at f0
        have ey := hid (show ys.getD k 0 = ys[k] by simp [List.getD, hy])
        obtain ⟨d, hd⟩ : ∃ d : Nat, (d : Int) = ((xs[k] : Int) - (ys[k] : Int) - (c' : Int)) % 4294967296 := ⟨(((xs[k] : Int) - (ys[k] : Int) - (c' : Int)) % 4294967296).toNat, by omega⟩
        obtain ⟨e, he⟩ : ∃ e : Nat, (e : Int) = bu (xs[k] : Int) (ys[k] : Int) (c' : Int) := ⟨(bu (xs[k] : Int) (ys[k] : Int) (c' : Int)).toNat, by have := bT (xs[k] : Int) (ys[k] : Int) (c' : Int); omega⟩
        have hde : d + ys[k] + c' = xs[k] + 4294967296 * e := by unfold bu at he; split at he <;> omega
        have hd1 : d < 4294967296 := by omega
        have he1 : e ≤ 1 := by have := bT (xs[k] : Int) (ys[k] : Int) (c' : Int); omega
        have HA := hid (fk (xs[k] : Int) (ys[k] : Int) (c' : Int) wr (by omega) (by omega) (by omega) (by omega) (by omega) (by omega))
        rw [← hd, ← he] at HA
        have HDE := hid hde
        clear hd he hde
        go_wp2_with fail
        refine Calls.mono HA.out ?_
        rintro e' w3 ⟨rfl, rfl⟩
        clear HA
        go_wp2
        go_roundw
        case rel =>
          refine ⟨k + 1, e, ds ++ [d], upd f k (.int .u32 d), by omega, by go_num, rfl, he1, hbw.setCell (Nat.le_refl _) _, by simpa using hsz, hown.set _ _, cK HL.out HF.out d, ?_, ?_, ?_⟩
          · show (ds ++ [d]).length = k + 1; simp [HL.out]
          · intro x hx; rcases List.mem_append.1 hx with h | h
            · exact HD.out x h
            simp at h; omega
          show aa (ds ++ [d]) + aa (ys.take (k + 1)) = _
          rw [ap, HL.out, E1.out, E2.out, ey.out, Nat.pow_succ, Nat.mul_assoc]
          have h1 := HV.out
          have h2 : 4294967296 ^ k * d + 4294967296 ^ k * ys[k] + 4294967296 ^ k * c' = 4294967296 ^ k * xs[k] + 4294967296 ^ k * (4294967296 * e) := by rw [← Nat.mul_add, ← Nat.mul_add, HDE.out, Nat.mul_add]
          omega
        case measure => simp [intOf]; omega
      have ey := hid (show ys.getD k 0 = 0 by simp [List.getD, List.getElem?_eq_none (by omega : ys.length ≤ k)])
      obtain ⟨d, hd⟩ : ∃ d : Nat, (d : Int) = ((xs[k] : Int) - 0 - (c' : Int)) % 4294967296 := ⟨(((xs[k] : Int) - 0 - (c' : Int)) % 4294967296).toNat, by omega⟩
      obtain ⟨e, he⟩ : ∃ e : Nat, (e : Int) = bu (xs[k] : Int) 0 (c' : Int) := ⟨(bu (xs[k] : Int) 0 (c' : Int)).toNat, by have := bT (xs[k] : Int) 0 (c' : Int); omega⟩
      have hde : d + c' = xs[k] + 4294967296 * e := by unfold bu at he; split at he <;> omega
      have hd1 : d < 4294967296 := by omega
      have he1 : e ≤ 1 := by have := bT (xs[k] : Int) 0 (c' : Int); omega
      have HA := hid (fk (xs[k] : Int) 0 (c' : Int) wr (by omega) (by omega) (by omega) (by omega) (by omega) (by omega))
      rw [← hd, ← he] at HA
      have HDE := hid hde
      clear hd he hde
      go_wp2_with fail
      refine Calls.mono HA.out ?_
      rintro e' w3 ⟨rfl, rfl⟩
      clear HA
      go_wp2
      go_roundw
      case rel =>
        refine ⟨k + 1, e, ds ++ [d], upd f k (.int .u32 d), by omega, by go_num, rfl, he1, hbw.setCell (Nat.le_refl _) _, by simpa using hsz, hown.set _ _, cK HL.out HF.out d, ?_, ?_, ?_⟩
        · show (ds ++ [d]).length = k + 1; simp [HL.out]
        · intro x hx; rcases List.mem_append.1 hx with h | h
          · exact HD.out x h
          simp at h; omega
        show aa (ds ++ [d]) + aa (ys.take (k + 1)) = _
        rw [ap, HL.out, E1.out, E2.out, ey.out, Nat.pow_succ, Nat.mul_assoc]
        have h1 := HV.out
        have h2 : 4294967296 ^ k * d + 4294967296 ^ k * c' = 4294967296 ^ k * xs[k] + 4294967296 ^ k * (4294967296 * e) := by rw [← Nat.mul_add, HDE.out, Nat.mul_add]
        omega
      case measure => simp [intOf]; omega
    have hk' : k = xs.length := by omega
    have hs : aa ds = x - y := by
      have h1 := HV.out
      rw [List.take_of_length_le (by omega), List.take_of_length_le (by omega), vx.out, vy.out] at h1
      have h2 := ax HD.out
      rw [HL.out] at h2
      have : c' = 0 ∨ c' = 1 := by omega
      rcases this with h | h
      · subst h; omega
      subst h; omega
    have hR := bV hown HF.out (by rw [HL.out, hk']) (by omega) HD.out
    have HT := hid (dO _ _ _ _ hR)
    rw [hs] at HT
    clear hs hk' hR
    go_wp2_with fail
    refine Calls.mono HT.out ?_
    rintro e' w3 ⟨r, rfl, rfl, hr⟩
    go_wp2
    go_ret
    exact ⟨_, rfl, hr, hbw⟩
theorem eP (a b:ByteArray) (w:World) (ha:a.size<=500000000000) (hb:b.size<=500000000000) (h:ac b<=ac a):
  Calls prog 271 #[.string a,.string b] w fun e w'=>e= .returned (.tuple #[.string (ae (ac a-ac b)),.bool true])/\Below w.heap.size w w':=by
 have H1:=hid (bw a w (by omega));have la:=bb a;have hlen:(ab (ac a-ac b)).length<=500000000000:=by
  have:ac a-ac b<4294967296^(ab (ac a)).length:=by
   have:=ax (aB (ac a));rw [ah] at this;omega
  have:=aW this;omega
 have hcmp:aC (ac a) (ac b)=0∨aC (ac a) (ac b)=1:=by
  unfold aC;rw [if_neg (by omega)];split<;>simp
 have HV:=hid (ah (ac a-ac b));have HH:=hid h;go_enter func271,ntmps271
 go_wp2_with fail
 refine Calls.mono H1.out ?_;rintro e w1 ⟨p,rfl,hp,hb1⟩;go_wp2_with fail
 refine (bw b w1 (by omega)).mono ?_;rintro e w2 ⟨q,rfl,hq,hb2⟩;have hp2:=(aq ay).below hp hb2 hb2.size;clear hp;have hbel:=hb1.step hb2;go_wp2_with fail
 refine (cJ _ _ _ _ _ _ (fun _ h=>h) hp2 hq).mono ?_;rintro e w3 ⟨rfl,hb3⟩;have hp3:=(aq ay).below hp2 hb3 hb3.size;have hq3:=(aq ay).below hq hb3 hb3.size;clear hp2 hq;have hc2:¬aC (ac a) (ac b)<0:=by omega
 have HC:=hid hcmp;clear hcmp;go_wp2_with fail
 refine (li _ _ _ _ _ _ (fun _ h=>h) (by omega) HH.out hp3 hq3).mono ?_;rintro e w4 ⟨r,rfl,hr,hb4⟩;go_wp2_with fail
 refine (cI _ _ _ _ (fun _ h=>h) (by omega) hr).mono ?_;rintro e w5 ⟨rfl,hb5⟩;rw [HV.out];go_wp2
 go_ret2
 exact ⟨rfl,(hbel.step hb3).step (hb4.step hb5)⟩
theorem ip (a b:ByteArray) (w:World) (ha:a.size<=500000000000) (hb:b.size<=500000000000) (h:ac a<ac b):
  Calls prog 271 #[.string a,.string b] w fun e w'=>e= .returned (.tuple #[.string ⟨#[]⟩,.bool false])/\Below w.heap.size w w':=by
 have H1:=hid (bw a w (by omega));have hcmp:=cv h;go_enter func271,ntmps271
 go_wp2_with fail
 refine Calls.mono H1.out ?_;rintro e w1 ⟨p,rfl,hp,hb1⟩;go_wp2_with fail
 refine (bw b w1 (by omega)).mono ?_;rintro e w2 ⟨q,rfl,hq,hb2⟩;have hp2:=(aq ay).below hp hb2 hb2.size;clear hp;have hbel:=hb1.step hb2;go_wp2_with fail
 refine (cJ _ _ _ _ _ _ (fun _ h=>h) hp2 hq).mono ?_;rintro e w3 ⟨rfl,hb3⟩;rw [hcmp];clear hp2 hq hcmp;go_wp2
 go_ret2
 exact ⟨rfl,hbel.step hb3⟩
theorem bF:∀(o:List Nat) (p d:Nat) (h:p<o.length),aa (o.set p d)+4294967296^p*o[p]=aa o+4294967296^p*d
 |x::r,0,d,_=>by simp [aa];omega
 |x::r,p+1,d,h=>by
  have ih:=bF r p d (by simpa using h);simp only [List.set_cons_succ,aa,List.getElem_cons_succ,Nat.pow_succ];rw [Nat.mul_comm (4294967296^p) 4294967296,Nat.mul_assoc,Nat.mul_assoc];omega
theorem gl {f:Nat->Value} {o:List Nat} {p:Nat} (hp:p<o.length) (h:∀j,f j= .int .u32 ((o.getD j 0:Nat):Int)) (d:Nat):∀j,upd f p (.int .u32 (d:Int)) j= .int .u32 (((o.set p d).getD j 0:Nat):Int):=by
 intro j;unfold upd;by_cases hj:j=p
 ·rw [if_pos hj,hj];simp [List.getD,hp]
 rw [if_neg hj,h j];simp [List.getD,show ¬p=j by omega]
theorem nC {u v:Nat} (hu:u<4294967296) (hv:v<4294967296):u*v<=18446744065119617025:=by
 have:=Nat.mul_le_mul (Nat.le_of_lt_succ hu:u<=4294967295) (Nat.le_of_lt_succ hv:v<=4294967295);exact this
theorem bj (a b : ByteArray) (w : World) (ha : a.size ≤ 500000000000) (hb : b.size ≤ 500000000000) :
    Calls prog 170 #[.string a, .string b] w fun e w' => e = .returned (.string (ae (ac a * ac b))) ∧ Below w.heap.size w w' := by
  have la := bb a
  have lb := bb b
  have va := hid (ah (ac a))
  have vb := hid (ah (ac b))
  have H1 := hid (bw a w (by omega))
  go_enter func170, ntmps170
  go_wp2_with fail
  refine Calls.mono H1.out ?_
  rintro e w1 ⟨p, rfl, hp, hb1⟩
  go_wp2_with fail
  refine (bw b w1 (by omega)).mono ?_
  rintro e w2 ⟨q, rfl, hq, hb2⟩
  have hp2 := (aq ay).below hp hb2 hb2.size
  clear hp
  have hbel := hb1.step hb2
  obtain ⟨pa, pc, rfl, p1, p2, p3, p4⟩ := aw hp2
  obtain ⟨qa, qc, rfl, q1, q2, q3, q4⟩ := aw hq
  generalize ab (ac a) = xs at *
  generalize ab (ac b) = ys at *
  obtain ⟨n, hn⟩ : ∃ n : Nat, n = xs.length + ys.length := ⟨_, rfl⟩
  have hn1 : (xs.length : Int) + (ys.length : Int) = (n : Int) := by omega
  have hmk := fun (w : World) => bo (P := prog) underlying363 Tryz.infoU32 rfl w n (by omega) (by omega)
  have HN := hid hn
  clear hn
  have hxn : xs.length ≤ 9223372036854775807 := by omega
  have hyn : ys.length ≤ 9223372036854775807 := by omega
  go_wp2
  clear hmk hn1
  go_loopw [8, 9, 10, 11, 12, 13, 26] (fun _ _ _ _ _ _ i wr => ∃ (k : Nat) (o : List Nat) (f : Nat → Value), k ≤ xs.length ∧ i = .int .i64 k ∧ Below w.heap.size w wr ∧ w2.heap.size < wr.heap.size ∧ Below w2.heap.size w2 wr ∧ Own wr w2.heap.size 233 n f ∧ Hid (∀ j, f j = .int .u32 ((o.getD j 0 : Nat) : Int)) ∧ Hid (o.length = n) ∧ Hid (∀ x ∈ o, x < 4294967296) ∧
      Hid (aa o = aa (xs.take k) * aa ys) ∧ Hid (∀ j, k + ys.length ≤ j → o.getD j 0 = 0)) (fun _ _ _ _ _ _ i _ => xs.length - (intOf i).toNat)
  case atStart =>
    refine ⟨0, List.replicate n 0, _, Nat.zero_le _, rfl, hbel.alloc hbel.size _, by simp, (Below.refl _ _).alloc (Nat.le_refl _) _, Own.new _ _ _ _, fun j => ?_, by simp [Hid], fun x hx => ?_, ?_, fun j _ => ?_⟩
    · simp [List.getD, List.getElem?_replicate]; split <;> rfl
    · have := List.eq_of_mem_replicate hx; omega
    · show aa _ = aa (xs.take 0) * aa ys; rw [cm]; simp [aa]
    simp [List.getD, List.getElem?_replicate]; split <;> rfl
  case round =>
    obtain ⟨k, o, f, hk, rfl, hbw, hsz, hbw2, hown, HF, HL, HD, HV, HZ⟩ := hrel
    by_cases hlt : k < xs.length
    · rcases p4 with rfl | ⟨b1, off1, rfl, p4⟩
      · simp at hlt
      obtain ⟨g0, g1⟩ := p4.u32 hlt
      rw [← hbw2.cell (p := ⟨b1, off1 + k, none⟩) p4.1] at g0
      have hkn : k + ys.length < n := by have := HN.out; omega
      have HT := hid (aK xs k hlt)
      obtain ⟨x, hx⟩ : ∃ x, x = xs[k] := ⟨_, rfl⟩
      rw [← hx] at g0 g1 HT
      clear hx
      have hkn' : (k : Int) < (n : Int) := by omega
      obtain ⟨wo, hwo⟩ : ∃ wo : World, wo = wr := ⟨_, rfl⟩
      subst hwo
      go_wp2
      go_loopw [10, 11, 12, 13, 33] (fun c _ _ _ i wr => ∃ (m c' : Nat) (o' : List Nat) (f : Nat → Value), m ≤ ys.length ∧ i = .int .i64 m ∧ c = .int .u64 (c' : Int) ∧ c' < 4294967296 ∧ Below w.heap.size w wr ∧ w2.heap.size < wr.heap.size ∧ Below w2.heap.size w2 wr ∧ Own wr w2.heap.size 233 n f ∧ Hid (∀ j, f j = .int .u32 ((o'.getD j 0 : Nat) : Int)) ∧ Hid (o'.length = n) ∧ Hid (∀ x ∈ o', x < 4294967296) ∧
        Hid (aa o' + 4294967296 ^ (k + m) * c' = aa (xs.take k) * aa ys + 4294967296 ^ k * (x * aa (ys.take m))) ∧ Hid (∀ j, k + ys.length ≤ j → o'.getD j 0 = 0)) (fun _ _ _ _ i _ => ys.length - (intOf i).toNat)
      case atStart => exact ⟨0, 0, o, f, Nat.zero_le _, rfl, rfl, by omega, hbw, hsz, hbw2, hown, HF, HL, HD, by simp [Hid, aa, HV.out], HZ⟩
      case round =>
        clear hown HF HL HD HV HZ hbw hbw2 hsz g0
        obtain ⟨m, c', o', f, hm, rfl, rfl, hc', hbw, hsz, hbw2, hown, HF, HL, HD, HV, HZ⟩ := hrel
        by_cases hmlt : m < ys.length
        · rcases q4 with rfl | ⟨b2, off2, rfl, q4⟩
          · simp at hmlt
          obtain ⟨f0, f1⟩ := q4.u32 hmlt
          rw [← hbw2.cell (p := ⟨b2, off2 + m, none⟩) q4.1] at f0
          have hp : k + m < n := by omega
          have HT2 := hid (aK ys m hmlt)
          obtain ⟨y, hy⟩ : ∃ y, y = ys[m] := ⟨_, rfl⟩
          rw [← hy] at f0 f1 HT2
          clear hy
          have c1 := hown.cell hp
          rw [HF.out] at c1
          have hpo : k + m < o'.length := by rw [HL.out]; exact hp
          have eo : o'.getD (k + m) 0 = o'[k + m] := by simp [List.getD, hpo]
          have ho : o'[k + m] < 4294967296 := HD.out _ (List.getElem_mem hpo)
          have HS := hid (fun d => bF o' (k + m) d hpo)
          rw [eo] at c1
          obtain ⟨z, hz⟩ : ∃ z, z = o'[k + m] := ⟨_, rfl⟩
          rw [← hz] at c1 ho HS
          have c2 := hown.frozen (k + m)
          clear hz eo
          obtain ⟨d, hd⟩ : ∃ d : Nat, d = (x * y + z + c') % 4294967296 := ⟨_, rfl⟩
          obtain ⟨e, he⟩ : ∃ e : Nat, e = (x * y + z + c') / 4294967296 := ⟨_, rfl⟩
          have hmb := nC g1 f1
          have hde : d + 4294967296 * e = x * y + z + c' := by omega
          have hd1 : d < 4294967296 := by omega
          have he1 : e < 4294967296 := by omega
          have e1 : IntKind.u64.wrap ((x : Int) * (y : Int)) = (x : Int) * (y : Int) := IntWalk.u64_in _ (by rw [← Int.natCast_mul]; omega)
          have e2 : IntKind.u64.wrap ((x : Int) * (y : Int) + (z : Int)) = (x : Int) * (y : Int) + (z : Int) := IntWalk.u64_in _ (by rw [← Int.natCast_mul]; omega)
          have e3 : IntKind.u64.wrap ((x : Int) * (y : Int) + (z : Int) + (c' : Int)) = (x : Int) * (y : Int) + (z : Int) + (c' : Int) := IntWalk.u64_in _ (by rw [← Int.natCast_mul]; omega)
          have HDE := hid hde
          have Hd := hid (show ((x : Int) * (y : Int) + (z : Int) + (c' : Int)) % 4294967296 = (d : Int) by rw [← Int.natCast_mul]; omega)
          have He := hid (show ((x : Int) * (y : Int) + (z : Int) + (c' : Int)) / 4294967296 = (e : Int) by rw [← Int.natCast_mul]; omega)
          clear hmb hd he hde
          go_wp2
          clear e1 e2 e3
          go_roundw
          case rel =>
            rw [Hd.out, He.out]
            refine ⟨m + 1, e, o'.set (k + m) d, upd f (k + m) (.int .u32 d), by omega, by go_num, rfl, he1, hbw.setCell (p := ⟨w2.heap.size, _, none⟩) hbel.size _, by simpa using hsz, hbw2.setCell (Nat.le_refl _) _, hown.set _ _, gl hpo HF.out d, ?_, ?_, ?_, ?_⟩
            · show (o'.set (k + m) d).length = n; simp [HL.out]
            · intro u hu
              rcases List.mem_or_eq_of_mem_set hu with h | h
              · exact HD.out u h
              omega
            · show aa (o'.set (k + m) d) + 4294967296 ^ (k + (m + 1)) * e = _
              have h1 := HV.out
              have h2 := HS.out d
              rw [HT2.out, ← Nat.add_assoc k m 1, Nat.pow_succ, Nat.mul_assoc]
              have h3 : 4294967296 ^ (k + m) * d + 4294967296 ^ (k + m) * (4294967296 * e) = 4294967296 ^ (k + m) * (x * y) + 4294967296 ^ (k + m) * z + 4294967296 ^ (k + m) * c' := by rw [← Nat.mul_add, HDE.out, Nat.mul_add, Nat.mul_add]
              have h4 : 4294967296 ^ k * (x * (aa (ys.take m) + 4294967296 ^ m * y)) = 4294967296 ^ k * (x * aa (ys.take m)) + 4294967296 ^ (k + m) * (x * y) := by
                rw [Nat.mul_add, Nat.mul_add, Nat.pow_add, Nat.mul_assoc (4294967296 ^ k)]
                congr 2
                rw [Nat.mul_left_comm]
              rw [h4]
              omega
            intro j hj
            have := HZ.out j hj
            simpa [List.getD, List.getElem?_set, show ¬ k + m = j by omega] using this
          case measure => simp [intOf]; omega
        have hm' : m = ys.length := by omega
        have hp : k + ys.length < o'.length := by rw [HL.out]; exact hkn
        have c1 := hown.cell hkn
        rw [HF.out] at c1
        have c2 := hown.frozen (k + ys.length)
        have hV2 : aa (o'.set (k + ys.length) c') = aa (xs.take (k + 1)) * aa ys := by
          have h1 := HV.out
          have h2 := bF o' (k + ys.length) c' hp
          have h3 := HZ.out (k + ys.length) (Nat.le_refl _)
          simp only [List.getD, List.getElem?_eq_getElem hp, Option.getD_some] at h3
          rw [h3] at h2
          rw [hm', List.take_length] at h1
          rw [HT.out, Nat.add_mul, Nat.mul_assoc]
          omega
        have HV2 := hid hV2
        clear hV2 hm'
        go_wp2
        go_roundw
        case rel =>
          refine ⟨k + 1, o'.set (k + ys.length) c', upd f (k + ys.length) (.int .u32 c'), by omega, by go_num, hbw.setCell (p := ⟨w2.heap.size, _, none⟩) hbel.size _, by simpa using hsz, hbw2.setCell (Nat.le_refl _) _, hown.set _ _, gl hp HF.out c', ?_, ?_, HV2.out, ?_⟩
          · show (o'.set _ _).length = n; simp [HL.out]
          · intro u hu
            rcases List.mem_or_eq_of_mem_set hu with h | h
            · exact HD.out u h
            omega
          intro j hj
          have := HZ.out j (by omega)
          simpa [List.getD, List.getElem?_set, show ¬ k + ys.length = j by omega] using this
        case measure => simp [intOf]; omega
    have hs : aa o = ac a * ac b := by
      have h1 := HV.out
      rw [List.take_of_length_le (by omega), va.out, vb.out] at h1
      exact h1
    have HR := hid (cI _ _ o _ (fun _ h => h) (by rw [HL.out]; have := HN.out; omega) (bV hown HF.out HL.out (by have := HN.out; omega) HD.out))
    rw [hs] at HR
    clear hs
    go_wp2_with fail
    refine Calls.mono HR.out ?_
    rintro e' w3 ⟨rfl, hb3⟩
    go_wp2
    go_ret
    exact ⟨rfl, hbw.step hb3⟩
theorem dl (r x:Nat) (hr:r<4294967296) (hx:x<4294967296):bits .or .u64 ((r:Int)*4294967296) (x:Int)=((r*4294967296+x:Nat):Int):=by
 have e:(r:Int)*4294967296=((r*2^32:Nat):Int):=by rw [Int.natCast_mul];rfl
 rw [e,u64_or_nat _ _ (by omega) (by omega),Nat.or_comm,lg x r 32 (by omega)]
theorem iE (S : Nat → Prop) (u : Value) (xs : List Nat) (d : Nat) (w : World) (hS : ∀ b, S b → b < w.heap.size) (hl : xs.length ≤ 1000000000000) (hd0 : 0 < d) (hd : d < 4294967296) (hu : al 1 aE w S [u] xs) :
    Calls prog 402 #[u, .int .u32 d] w fun e w' => ∃ r, e = .returned (.tuple #[r, .int .u32 ((aa xs % d : Nat) : Int)]) ∧ al 1 aE w' (LT w'.heap.size) [r] (ab (aa xs / d)) ∧ Below w.heap.size w w' := by
  have hxlt := hid (cB hu)
  obtain ⟨xa, xc, rfl, x1, x2, x3, x4⟩ := aw hu
  have hn := cc x1 x2
  have hmk := fun (w : World) => bo (P := prog) underlying363 Tryz.infoU32 rfl w xs.length (by omega) (by omega)
  go_enter func402, ntmps402
  go_wp2
  clear hmk
  go_loopw [7, 8, 9] (fun r i _ wr => ∃ (k r' : Nat) (o : List Nat) (f : Nat → Value), k ≤ xs.length ∧ i = .int .i64 ((k : Int) - 1) ∧ r = .int .u64 (r' : Int) ∧ r' < d ∧ Below w.heap.size w wr ∧ w.heap.size < wr.heap.size ∧ Own wr w.heap.size 233 xs.length f ∧ Hid (∀ j, f j = .int .u32 ((o.getD j 0 : Nat) : Int)) ∧ Hid (o.length = xs.length) ∧ Hid (∀ x ∈ o, x < 4294967296) ∧
      Hid (aa (xs.drop k) = aa (o.drop k) * d + r')) (fun _ i _ _ => (intOf i + 1).toNat)
  case atStart =>
    refine ⟨xs.length, 0, List.replicate xs.length 0, _, Nat.le_refl _, rfl, rfl, hd0, (Below.refl _ _).alloc (Nat.le_refl _) _, by simp, Own.new _ _ _ _, fun j => ?_, by simp [Hid], fun x hx => ?_, ?_⟩
    · simp [List.getD, List.getElem?_replicate]; split <;> rfl
    · have := List.eq_of_mem_replicate hx; omega
    show aa (xs.drop xs.length) = _
    rw [List.drop_length, List.drop_of_length_le (by simp)]; simp [aa]
  case round =>
    obtain ⟨k, r', o, f, hk, rfl, rfl, hr', hbw, hsz, hown, HF, HL, HD, HV⟩ := hrel
    cases k with
    | zero =>
      have hs := HV.out
      rw [List.drop_zero, List.drop_zero] at hs
      have hq : aa o = aa xs / d := by rw [hs, Nat.mul_comm, Nat.mul_add_div hd0, Nat.div_eq_of_lt hr']; rfl
      have hrm : aa xs % d = r' := by rw [hs, Nat.mul_comm, Nat.mul_add_mod, Nat.mod_eq_of_lt hr']
      have hR := bV hown HF.out HL.out (by omega) HD.out
      have HT := hid (dO _ _ _ _ hR)
      rw [hq] at HT
      have HRM := hid hrm
      clear hs hq hR hrm
      have hr32 : r' < 4294967296 := by omega
      go_wp2_with fail
      refine Calls.mono HT.out ?_
      rintro e' w3 ⟨r, rfl, rfl, hr⟩
      go_wp2
      go_ret2
      exact ⟨r, by rw [HRM.out]; rfl, hr, hbw⟩
    | succ k =>
      rw [show (((k + 1 : Nat) : Int) - 1) = (k : Int) by omega]
      have hlt : k < xs.length := by omega
      rcases x4 with rfl | ⟨b1, off1, rfl, x4⟩
      · simp at hlt
      obtain ⟨g0, g1⟩ := x4.u32 hlt
      rw [← hbw.cell (p := ⟨b1, off1 + k, none⟩) (hS _ x4.1)] at g0
      have c1 := hown.cell hlt
      rw [HF.out k] at c1
      have c2 := hown.frozen k
      have hr32 : r' < 4294967296 := by omega
      obtain ⟨x, hx⟩ : ∃ x, x = xs[k] := ⟨_, rfl⟩
      have HX := hid (show aa (xs.drop k) = x + 4294967296 * aa (xs.drop (k + 1)) by rw [hx, List.drop_eq_getElem_cons hlt]; rfl)
      rw [← hx] at g0 g1
      clear hx
      have o1 := dl r' x hr32 g1
      obtain ⟨q, hq⟩ : ∃ q : Nat, q = (r' * 4294967296 + x) / d := ⟨_, rfl⟩
      obtain ⟨r2, hr2⟩ : ∃ r2 : Nat, r2 = (r' * 4294967296 + x) % d := ⟨_, rfl⟩
      have hqr : d * q + r2 = r' * 4294967296 + x := by rw [hq, hr2]; exact Nat.div_add_mod _ _
      have hr2d : r2 < d := by rw [hr2]; exact Nat.mod_lt _ hd0
      have hq32 : q < 4294967296 := by
        rw [hq]
        apply Nat.div_lt_of_lt_mul
        have := Nat.mul_le_mul_right 4294967296 (show r' + 1 ≤ d from hr')
        rw [Nat.add_mul] at this
        omega
      have Q1 := hid (show (((r' : Int) * 4294967296 + (x : Int)) / (d : Int)) % 4294967296 = (q : Int) by
        have : ((r' : Int) * 4294967296 + (x : Int)) / (d : Int) = (q : Int) := by rw [hq, Int.natCast_ediv, Int.natCast_add, Int.natCast_mul]; rfl
        rw [this]; omega)
      have Q2 := hid (show (((r' : Int) * 4294967296 + (x : Int)) % (d : Int)) = (r2 : Int) by rw [hr2, Int.natCast_emod, Int.natCast_add, Int.natCast_mul]; rfl)
      have HQR := hid hqr
      clear hq hr2 hqr
      go_wp2
      clear o1
      go_roundw
      case rel =>
        rw [Q1.out, Q2.out]
        have hko : k < o.length := by rw [HL.out]; exact hlt
        refine ⟨k, r2, o.set k q, upd f k (.int .u32 q), by omega, rfl, rfl, hr2d, hbw.setCell (Nat.le_refl _) _, by simpa using hsz, hown.set _ _, gl hko HF.out q, ?_, ?_, ?_⟩
        · show (o.set k q).length = _; simp [HL.out]
        · intro u hu
          rcases List.mem_or_eq_of_mem_set hu with h | h
          · exact HD.out u h
          omega
        show aa (xs.drop k) = aa ((o.set k q).drop k) * d + r2
        have e : (o.set k q).drop k = q :: o.drop (k + 1) := by
          rw [List.drop_eq_getElem_cons (by simpa using hko), List.drop_set_of_lt (by omega)]
          simp
        rw [HX.out, HV.out, e]
        show _ = (q + 4294967296 * aa (o.drop (k + 1))) * d + r2
        have h1 := HQR.out
        rw [Nat.add_mul, Nat.mul_add, Nat.mul_assoc 4294967296, Nat.mul_comm q d]
        omega
      case measure => simp [intOf]
def OwnL (w:World) (g:Nat) (n:Nat) (o:List Nat):Prop:=o.length=n/\(∀x∈o,x<4294967296)/\∃f,Own w g 233 n f/\∀j,f j= .int .u32 ((o.getD j 0:Nat):Int)
theorem OwnL.cell {w:World} {g n:Nat} {o:List Nat} (h:OwnL w g n o) {j:Nat} (hj:j<o.length):w.cell? ⟨g,j,none⟩=some (.int .u32 (o[j]:Nat)):=by
 obtain ⟨h1,_,f,h2,h3⟩:=h;rw [h2.cell (by omega),h3 j];simp [List.getD,hj]
theorem OwnL.frozen {w:World} {g n:Nat} {o:List Nat} (h:OwnL w g n o) (j:Nat):w.frozen? ⟨g,j,none⟩=false:=h.2.2.choose_spec.1.frozen j
theorem OwnL.set {w:World} {g n:Nat} {o:List Nat} (h:OwnL w g n o) {p d:Nat} (hp:p<o.length) (hd:d<4294967296):OwnL (w.setCell ⟨g,p,none⟩ (.int .u32 d)) g n (o.set p d):=by
 obtain ⟨h1,h2,f,h3,h4⟩:=h;refine ⟨by simpa using h1,fun x hx=>?_,_,h3.set p _,gl hp h4 d⟩;rcases List.mem_or_eq_of_mem_set hx with h|h
 ·exact h2 x h
 omega
theorem OwnL.below {w w':World} {B g n:Nat} {o:List Nat} (h:OwnL w g n o) (hb:Below B w w') (hg:g<B):OwnL w' g n o:=⟨h.1,h.2.1,h.2.2.choose,h.2.2.choose_spec.1.below hb hg,h.2.2.choose_spec.2⟩
theorem OwnL.drew {w:World} {g n:Nat} {o:List Nat} (h:OwnL w g n o):OwnL w.drew g n o:=h
theorem OwnL.lt {w:World} {g n:Nat} {o:List Nat} (h:OwnL w g n o):g<w.heap.size:=h.2.2.choose_spec.1.lt
theorem OwnL.new (w:World) (n:Nat):OwnL (w.alloc (.cells ((Array.range n).map fun _=> .int .u32 0) 233)) w.heap.size n (List.replicate n 0):=by
 refine ⟨by simp,fun x hx=>by have:=List.eq_of_mem_replicate hx;omega,_,Own.new _ _ _ _,fun j=>?_⟩;simp [List.getD,List.getElem?_replicate];split<;>rfl
theorem OwnL.slice {w:World} {g n:Nat} {o:List Nat} (h:OwnL w g n o) (hn:n<=9223372036854775807):al 1 aE w (LT w.heap.size) [.slice (some ⟨g,0,none⟩) n n] o:=
 bV h.2.2.choose_spec.1 h.2.2.choose_spec.2 h.1 hn h.2.1
theorem ee {s:Nat} (hs:s<32):2^s<=2147483648:=by
 have:=Nat.pow_le_pow_right (n:=2) (by decide) (show s<=31 by omega);exact this
theorem mB {x c s:Nat} (hx:x<4294967296) (hs:s<32) (hc:c<2^s):
  ∃lo hi:Nat,bits .or .u32 (c:Int) (IntKind.u64.wrap ((x:Int)*2^s)%4294967296)=((c+lo:Nat):Int)/\
  bits .or .u32 (0:Int) (IntKind.u64.wrap ((x:Int)*2^s)/4294967296%4294967296)=(hi:Int)/\c+lo<4294967296/\hi<2^s/\4294967296*hi+lo=x*2^s:=by
 have hp:=ee hs;have ht:x*2^s<=4294967295*2147483648:=Nat.mul_le_mul (by omega) hp;have e1:(x:Int)*2^s=((x*2^s:Nat):Int):=by rw [Int.natCast_mul,Int.natCast_pow];rfl
 have e2:IntKind.u64.wrap ((x:Int)*2^s)=((x*2^s:Nat):Int):=by rw [e1];exact IntWalk.u64_in _ (by omega)
 have hW:4294967296=2^(32-s)*2^s:=by rw [←Nat.pow_add,show 32-s+s=32 by omega]
 have hlo:x*2^s%4294967296=x%2^(32-s)*2^s:=by
  conv=>lhs;rw [hW]
  exact Nat.mul_mod_mul_right _ _ _
 have hhi:x*2^s/4294967296<2^s:=by
  apply Nat.div_lt_of_lt_mul;exact Nat.mul_lt_mul_of_pos_right hx (Nat.pow_pos (by decide))
 have hlo2:x*2^s%4294967296<4294967296:=Nat.mod_lt _ (by decide);have hor:c|||x*2^s%4294967296=c+x*2^s%4294967296:=by rw [hlo,lg c _ s hc];omega
 have hsum:c+x*2^s%4294967296<4294967296:=by
  rw [hlo];have h1:(x%2^(32-s)+1)*2^s<=2^(32-s)*2^s:=Nat.mul_le_mul_right _ (Nat.mod_lt _ (Nat.pow_pos (by decide)));rw [←hW,Nat.add_mul] at h1;omega
 generalize hT:x*2^s=T at *
 refine ⟨T%4294967296,T/4294967296,?_,?_,hsum,hhi,Nat.div_add_mod _ _⟩
 ·rw [e2,show ((T:Int)%4294967296)=((T%4294967296:Nat):Int) by omega,u32_or_nat _ _ (by omega) hlo2,hor]
 rw [e2,show ((T:Int)/4294967296%4294967296)=((T/4294967296:Nat):Int) by omega,show (0:Int)=((0:Nat):Int) from rfl,u32_or_nat _ _ (by omega) (by omega)];simp
theorem kh (S : Nat → Prop) (u : Value) (xs : List Nat) (s n : Nat) (w : World) (hS : ∀ b, S b → b < w.heap.size) (hn : n ≤ 1000000000000) (hs : s < 32) (hxn : xs.length ≤ n) (hv : aa xs * 2 ^ s < 4294967296 ^ n) (hu : al 1 aE w S [u] xs) :
    Calls prog 404 #[u, .int .u64 s, .int .i64 n] w fun e w' => ∃ g o, e = .returned (.slice (some ⟨g, 0, none⟩) n n) ∧ w.heap.size ≤ g ∧ OwnL w' g n o ∧ aa o = aa xs * 2 ^ s ∧ Below w.heap.size w w' := by
  have hxlt := hid (cB hu)
  obtain ⟨xa, xc, rfl, x1, x2, x3, x4⟩ := aw hu
  have hn' := cc x1 x2
  have hmk := fun (w : World) => bo (P := prog) underlying363 Tryz.infoU32 rfl w n (by omega) (by omega)
  have HV := hid hv
  clear hv
  go_enter func404, ntmps404
  go_wp2
  clear hmk
  go_loopw [8, 9, 10, 15] (fun _ _ _ i wr => ∃ (k : Nat) (o : List Nat), k ≤ xs.length ∧ i = .int .i64 k ∧ Below w.heap.size w wr ∧ OwnL wr w.heap.size n o ∧
      Hid (aa o = aa (xs.take k) * 2 ^ s) ∧ Hid (∀ j, k < j → o.getD j 0 = 0) ∧ Hid (o.getD k 0 < 2 ^ s)) (fun _ _ _ i _ => xs.length - (intOf i).toNat)
  case atStart =>
    refine ⟨0, _, Nat.zero_le _, rfl, (Below.refl _ _).alloc (Nat.le_refl _) _, OwnL.new _ _, ?_, fun j _ => ?_, ?_⟩
    · show aa _ = aa (xs.take 0) * 2 ^ s; rw [cm]; simp [aa]
    · simp [List.getD, List.getElem?_replicate]; split <;> rfl
    show (List.replicate n 0).getD 0 0 < 2 ^ s
    have : (List.replicate n 0).getD 0 0 = 0 := by simp [List.getD, List.getElem?_replicate]; split <;> rfl
    rw [this]; exact Nat.pow_pos (by decide)
  case round =>
    obtain ⟨k, o, hk, rfl, hbw, hown, HE, HZ, HC⟩ := hrel
    by_cases hlt : k < xs.length
    · rcases x4 with rfl | ⟨b1, off1, rfl, x4⟩
      · simp at hlt
      obtain ⟨g0, g1⟩ := x4.u32 hlt
      rw [← hbw.cell (p := ⟨b1, off1 + k, none⟩) (hS _ x4.1)] at g0
      have hko : k < o.length := by rw [hown.1]; omega
      have c1 := hown.cell hko
      have c2 := hown.frozen k
      have ek : o.getD k 0 = o[k] := by simp [List.getD, hko]
      have hck := HC.out
      rw [ek] at hck
      obtain ⟨lo, hi, b1', b2', b3', b4', hdm⟩ := mB (x := xs[k]) (c := o[k]) g1 hs hck
      have HT := hid (aK xs k hlt)
      have HS := hid (fun d => bF o k d hko)
      have HDM := hid hdm
      have B1 := hid b1'
      have B2 := hid b2'
      have B3 := hid b3'
      have B4 := hid b4'
      have CK := hid hck
      clear b1' b2' b3' b4' hck ek hdm
      by_cases hk1 : k + 1 < n
      · have hko1 : k + 1 < o.length := by rw [hown.1]; omega
        have e0 : o[k + 1] = 0 := by have := HZ.out (k + 1) (by omega); simpa [List.getD, hko1] using this
        have c3 := hown.cell hko1
        rw [e0] at c3
        have E0 := hid e0
        clear e0
        have c4 := hown.frozen (k + 1)
        go_wp2
        go_roundw
        case rel =>
          rw [B1.out, B2.out]
          have h2 : x2 = x2 := rfl
          refine ⟨k + 1, (o.set k (o[k] + lo)).set (k + 1) (hi), by omega, by go_num, (hbw.setCell (Nat.le_refl _) _).setCell (Nat.le_refl _) _,
            (hown.set hko B3.out).set (by simpa using hko1) (by have := B4.out; have := ee hs; omega), ?_, fun j hj => ?_, ?_⟩
          · show aa _ = _
            have h1 := bF (o.set k (o[k] + lo)) (k + 1) (hi) (by simpa using hko1)
            have h3 := HS.out (o[k] + lo)
            have h4 : (o.set k (o[k] + lo))[k + 1]'(by simpa using hko1) = 0 := by rw [List.getElem_set_ne (by omega)]; exact E0.out
            rw [h4] at h1
            rw [HT.out, Nat.add_mul, ← HE.out, Nat.mul_assoc, ← HDM.out, Nat.mul_add, ← Nat.mul_assoc, ← Nat.pow_succ, Nat.succ_eq_add_one]
            rw [Nat.mul_add] at h3
            omega
          · have := HZ.out j (by omega)
            simpa [List.getD, List.getElem?_set, show ¬ k = j by omega, show ¬ k + 1 = j by omega] using this
          show ((o.set k _).set (k + 1) _).getD (k + 1) 0 < 2 ^ s
          simp [List.getD, hko1]
          exact B4.out
        case measure => simp [intOf]; omega
      have hn1 : n = k + 1 := by omega
      have HN1 := hid hn1
      clear hn1
      go_wp2
      go_roundw
      case rel =>
        rw [B1.out]
        have hfull : xs.take (k + 1) = xs := List.take_of_length_le (by omega)
        have hV := HV.out
        have hsmall : hi = 0 := by
          have hlt' : xs[k] * 2 ^ s < 4294967296 := by
            have h5 := HT.out
            rw [hfull] at h5
            rw [h5, HN1.out, Nat.add_mul, ← HE.out, Nat.mul_assoc, Nat.pow_succ] at hV
            exact Nat.lt_of_mul_lt_mul_left (a := 4294967296 ^ k) (by omega)
          have := HDM.out
          omega
        refine ⟨k + 1, o.set k (o[k] + lo), by omega, by go_num, hbw.setCell (Nat.le_refl _) _, hown.set hko B3.out, ?_, fun j hj => ?_, ?_⟩
        · show aa _ = _
          have h3 := HS.out (o[k] + lo)
          have h6 := HDM.out
          rw [hsmall, Nat.mul_zero, Nat.zero_add] at h6
          rw [HT.out, Nat.add_mul, ← HE.out, Nat.mul_assoc, ← h6]
          rw [Nat.mul_add] at h3
          omega
        · have := HZ.out j (by omega)
          simpa [List.getD, List.getElem?_set, show ¬ k = j by omega] using this
        show (o.set k _).getD (k + 1) 0 < 2 ^ s
        have h7 : (o.set k (o[k] + lo)).length ≤ k + 1 := by have := hown.1; have := HN1.out; simp; omega
        simp only [List.getD, List.getElem?_eq_none h7, Option.getD_none]
        exact Nat.pow_pos (by decide)
      case measure => simp [intOf]; omega
    have hs' : aa o = aa xs * 2 ^ s := by have := HE.out; rwa [List.take_of_length_le (by omega)] at this
    have HS' := hid hs'
    clear hs'
    go_wp2
    go_ret
    exact ⟨_, o, rfl, Nat.le_refl _, hown, HS'.out, hbw⟩
theorem pQ (x r:Nat) (hx:x<4294967296) (hr:r<4294967296):bits .or .u64 (x:Int) ((r:Int)*4294967296)=((r*4294967296+x:Nat):Int):=by
 have e:(r:Int)*4294967296=((r*2^32:Nat):Int):=by rw [Int.natCast_mul];rfl
 rw [e,u64_or_nat _ _ (by omega) (by omega),lg x r 32 (by omega)]
theorem fx {xs:List Nat} (hxs:∀x∈xs,x<4294967296) (i s:Nat) (hi:i<xs.length) (hs:s<32):(xs.getD (i+1) 0*4294967296+xs[i])/2^s%4294967296=aa xs/2^s/4294967296^i%4294967296:=by
 have hx:∃r l,aa xs=l+4294967296^i*(xs[i]+4294967296*xs.getD (i+1) 0+18446744073709551616*r)/\l=aa (xs.take i):=by
  refine ⟨aa (xs.drop (i+2)),aa (xs.take i),?_,rfl⟩;have e1:aa xs=aa (xs.take i)+4294967296^i*aa (xs.drop i):=by
   conv=>lhs;rw [←List.take_append_drop i xs]
   rw [bv,List.length_take,Nat.min_eq_left (by omega)]
  have e2:aa (xs.drop i)=xs[i]+4294967296*aa (xs.drop (i+1)):=by rw [List.drop_eq_getElem_cons hi];rfl
  have e3:aa (xs.drop (i+1))=xs.getD (i+1) 0+4294967296*aa (xs.drop (i+2)):=by
   by_cases h:i+1<xs.length
   ·rw [List.drop_eq_getElem_cons h];simp [List.getD,h,aa]
   rw [List.drop_of_length_le (by omega),List.drop_of_length_le (by omega)];simp [List.getD,List.getElem?_eq_none (by omega:xs.length<=i+1),aa]
  rw [e1,e2,e3,Nat.mul_add 4294967296 (xs.getD (i+1) 0)];congr 2;omega
 obtain ⟨r,l,hR,hl⟩:=hx;have hl':l<4294967296^i:=by
  have:=ax (xs:=xs.take i) (fun x hx=>hxs x (List.mem_of_mem_take hx));rw [List.length_take,Nat.min_eq_left (by omega)] at this;rw [hl];exact this
 rw [Nat.div_div_eq_div_mul,Nat.mul_comm (2^s),←Nat.div_div_eq_div_mul,hR,Nat.add_mul_div_left _ _ (gT i),Nat.div_eq_of_lt hl',Nat.zero_add];have e1:(18446744073709551616:Nat)*r=2^s*(4294967296*(2^(32-s)*r)):=by
  have:(18446744073709551616:Nat)=2^s*(4294967296*2^(32-s)):=by
   have e2:(4294967296:Nat)=2^32:=by decide
   rw [e2,←Nat.pow_add,←Nat.pow_add,show s+(32+(32-s))=64 by omega]
  conv=>lhs;rw [this]
  rw [Nat.mul_assoc,Nat.mul_assoc]
 rw [e1,Nat.add_mul_div_left _ _ (Nat.pow_pos (by decide)),Nat.add_mul_mod_self_left,Nat.mul_comm (xs.getD (i+1) 0),Nat.add_comm]
theorem mC (S : Nat → Prop) (u : Value) (xs : List Nat) (s : Nat) (w : World) (hS : ∀ b, S b → b < w.heap.size) (hl : xs.length ≤ 1000000000000) (hs : s < 32) (hu : al 1 aE w S [u] xs) :
    Calls prog 406 #[u, .int .u64 s] w fun e w' => ∃ r, e = .returned r ∧ al 1 aE w' (LT w'.heap.size) [r] (ab (aa xs / 2 ^ s)) ∧ Below w.heap.size w w' := by
  have hxlt := hid (cB hu)
  obtain ⟨xa, xc, rfl, x1, x2, x3, x4⟩ := aw hu
  have hn' := cc x1 x2
  have hmk := fun (w : World) => bo (P := prog) underlying363 Tryz.infoU32 rfl w xs.length (by omega) (by omega)
  go_enter func406, ntmps406
  go_wp2
  clear hmk
  go_loopw [6, 7, 13] (fun _ _ i wr => ∃ (k : Nat) (o : List Nat), k ≤ xs.length ∧ i = .int .i64 k ∧ Below w.heap.size w wr ∧ OwnL wr w.heap.size xs.length o ∧
      Hid (∀ j, j < k → o.getD j 0 = aa xs / 2 ^ s / 4294967296 ^ j % 4294967296)) (fun _ _ i _ => xs.length - (intOf i).toNat)
  case atStart => exact ⟨0, _, Nat.zero_le _, rfl, (Below.refl _ _).alloc (Nat.le_refl _) _, OwnL.new _ _, fun j hj => by omega⟩
  case round =>
    obtain ⟨k, o, hk, rfl, hbw, hown, HE⟩ := hrel
    by_cases hlt : k < xs.length
    · rcases x4 with rfl | ⟨b1, off1, rfl, x4⟩
      · simp at hlt
      obtain ⟨g0, g1⟩ := x4.u32 hlt
      rw [← hbw.cell (p := ⟨b1, off1 + k, none⟩) (hS _ x4.1)] at g0
      have hko : k < o.length := by rw [hown.1]; omega
      have c1 := hown.cell hko
      have c2 := hown.frozen k
      have HD := hid (fx hxlt.out k s hlt hs)
      obtain ⟨x, hx⟩ : ∃ x, x = xs[k] := ⟨_, rfl⟩
      rw [← hx] at g0 g1 HD
      clear hx
      by_cases hk1 : k + 1 < xs.length
      · obtain ⟨f0, f1⟩ := x4.u32 hk1
        rw [← hbw.cell (p := ⟨b1, off1 + (k + 1), none⟩) (hS _ x4.1)] at f0
        have ey : xs.getD (k + 1) 0 = xs[k + 1] := by simp [List.getD, hk1]
        rw [ey] at HD
        obtain ⟨y, hy⟩ : ∃ y, y = xs[k + 1] := ⟨_, rfl⟩
        rw [← hy] at f0 f1 HD
        clear hy ey
        have o1 := pQ x y g1 f1
        obtain ⟨d, hd⟩ : ∃ d : Nat, d = (y * 4294967296 + x) / 2 ^ s % 4294967296 := ⟨_, rfl⟩
        have hd1 : d < 4294967296 := by rw [hd]; exact Nat.mod_lt _ (by decide)
        have HV := hid (show ((y : Int) * 4294967296 + (x : Int)) / 2 ^ s % 4294967296 = (d : Int) by
          rw [hd, Int.natCast_emod, Int.natCast_ediv, Int.natCast_pow]; try rw [Int.natCast_add, Int.natCast_mul]
          rfl)
        skip
        rw [HD.out] at hd
        have HD2 := hid hd
        clear hd HD
        go_wp2
        go_roundw
        case rel =>
          rw [HV.out]
          refine ⟨k + 1, o.set k d, by omega, by go_num, hbw.setCell (Nat.le_refl _) _, hown.set hko hd1, fun j hj => ?_⟩
          by_cases hjk : j = k
          · subst hjk; rw [← HD2.out]; simp [List.getD, hko]
          rw [← HE.out j (by omega)]; simp [List.getD, show ¬ k = j by omega]
        case measure => simp [intOf]; omega
      have ey : xs.getD (k + 1) 0 = 0 := by simp [List.getD, List.getElem?_eq_none (by omega : xs.length ≤ k + 1)]
      rw [ey] at HD
      clear ey
      obtain ⟨d, hd⟩ : ∃ d : Nat, d = x / 2 ^ s % 4294967296 := ⟨_, rfl⟩
      have hd1 : d < 4294967296 := by rw [hd]; exact Nat.mod_lt _ (by decide)
      have HV := hid (show (x : Int) / 2 ^ s % 4294967296 = (d : Int) by
        rw [hd, Int.natCast_emod, Int.natCast_ediv, Int.natCast_pow]; try rw [Int.natCast_add, Int.natCast_mul]
        rfl)
      rw [show x = 0 * 4294967296 + x by omega] at hd
      rw [HD.out] at hd
      have HD2 := hid hd
      clear hd HD
      go_wp2
      go_roundw
      case rel =>
        rw [HV.out]
        refine ⟨k + 1, o.set k d, by omega, by go_num, hbw.setCell (Nat.le_refl _) _, hown.set hko hd1, fun j hj => ?_⟩
        by_cases hjk : j = k
        · subst hjk; rw [← HD2.out]; simp [List.getD, hko]
        rw [← HE.out j (by omega)]; simp [List.getD, show ¬ k = j by omega]
      case measure => simp [intOf]; omega
    have hoe : o = bh xs.length (aa xs / 2 ^ s) := by
      apply List.ext_getElem?
      intro j
      by_cases hj : j < xs.length
      · have h1 := HE.out j (by omega)
        rw [cn _ _ _ hj, ← h1]
        have : j < o.length := by rw [hown.1]; exact hj
        simp [List.getD, this]
      rw [List.getElem?_eq_none (by rw [hown.1]; omega), List.getElem?_eq_none (by rw [bc]; omega)]
    have hval : aa o = aa xs / 2 ^ s := by
      rw [hoe, d9]
      apply Nat.mod_eq_of_lt
      exact Nat.lt_of_le_of_lt (Nat.div_le_self _ _) (ax hxlt.out)
    have hT := dO _ _ _ _ (hown.slice (by omega))
    rw [hval] at hT
    have HT := hid hT
    clear hval hoe hT
    go_wp2_with fail
    refine Calls.mono HT.out ?_
    rintro e' w3 ⟨r, rfl, rfl, hr⟩
    go_wp2
    go_ret
    exact ⟨_, rfl, hr, hbw⟩
end Go.Proofs.YtclkgcigacbmiaaGreatDoor
section
/- Long division, one digit (Knuth's algorithm D): plain. -/
namespace Go.Proofs.YtclkgcigacbmiaaGreatDoor
section
variable {D U M D0 U0 dt d2 top u2 : Nat} (hD : D = (dt * 4294967296 + d2) * M + D0) (hU : U = (top * 4294967296 + u2) * M + U0) (hD0 : D0 < M) (hU0 : U0 < M)
include hD hU hU0
theorem ki {G R:Nat} (h:G*dt+R=top) (hg:R*4294967296+u2<G*d2):U<G*D:=by
 have h1:(top*4294967296+u2+1)*M<=(G*(dt*4294967296+d2))*M:=by
  apply Nat.mul_le_mul_right;rw [←h,Nat.mul_add,Nat.add_mul,←Nat.mul_assoc];omega
 rw [Nat.add_mul,Nat.one_mul] at h1;have h2:G*D=G*(dt*4294967296+d2)*M+G*D0:=by rw [hD,Nat.mul_add,←Nat.mul_assoc]
 rw [hU,h2];omega
include hD0
theorem js {G R:Nat} (hdt:0<dt) (h:G*dt+R=top) (hg:G*d2<=R*4294967296+u2) (hG:G<=4294967296):G*D<=U+D:=by
 have h1:(G*(dt*4294967296+d2))*M<=(top*4294967296+u2)*M:=by
  apply Nat.mul_le_mul_right;rw [←h,Nat.mul_add,Nat.add_mul,←Nat.mul_assoc];omega
 have h2:G*D=G*(dt*4294967296+d2)*M+G*D0:=by rw [hD,Nat.mul_add,←Nat.mul_assoc]
 have h3:G*D0<=4294967296*M:=Nat.mul_le_mul hG (Nat.le_of_lt hD0);have h4:4294967296*M<=(dt*4294967296+d2)*M:=Nat.mul_le_mul_right _ (by omega);rw [h2];omega
end
theorem bd (xs:List Nat) (m:Nat) (hm:m<=xs.length):aa xs=aa (xs.take m)+4294967296^m*aa (xs.drop m):=by
 conv=>lhs;rw [←List.take_append_drop m xs]
 rw [bv,List.length_take,Nat.min_eq_left hm]
theorem jt {xs:List Nat} (h:∀x∈xs,x<4294967296) (m:Nat) (hl:xs.length=m+2):
  ∃X0,X0<4294967296^m/\aa xs=(xs.getD (m+1) 0*4294967296+xs.getD m 0)*4294967296^m+X0:=by
 refine ⟨aa (xs.take m),?_,?_⟩
 ·have:=ax (xs:=xs.take m) (fun x hx=>h x (List.mem_of_mem_take hx));rwa [List.length_take,Nat.min_eq_left (by omega)] at this
 rw [bd xs m (by omega)];have e:xs.drop m=[xs.getD m 0,xs.getD (m+1) 0]:=by
  rw [List.drop_eq_getElem_cons (by omega),List.drop_eq_getElem_cons (by omega),List.drop_of_length_le (by omega)];simp [List.getD,show m<xs.length by omega,show m+1<xs.length by omega]
 rw [e];simp only [aa];rw [Nat.mul_comm (4294967296^m),Nat.add_comm,Nat.mul_comm 4294967296,Nat.mul_zero,Nat.add_zero];congr 2;omega
theorem ju {xs:List Nat} (h:∀x∈xs,x<4294967296) (m:Nat) (hl:xs.length=m+3):
  ∃X0,X0<4294967296^m/\aa xs=((xs.getD (m+2) 0*4294967296+xs.getD (m+1) 0)*4294967296+xs.getD m 0)*4294967296^m+X0:=by
 refine ⟨aa (xs.take m),?_,?_⟩
 ·have:=ax (xs:=xs.take m) (fun x hx=>h x (List.mem_of_mem_take hx));rwa [List.length_take,Nat.min_eq_left (by omega)] at this
 rw [bd xs m (by omega)];have e:xs.drop m=[xs.getD m 0,xs.getD (m+1) 0,xs.getD (m+2) 0]:=by
  rw [List.drop_eq_getElem_cons (by omega),List.drop_eq_getElem_cons (by omega),List.drop_eq_getElem_cons (by omega),List.drop_of_length_le (by omega)];simp [List.getD,show m<xs.length by omega,show m+1<xs.length by omega,show m+2<xs.length by omega]
 rw [e];simp only [aa];rw [Nat.mul_comm (4294967296^m),Nat.add_comm,Nat.mul_zero,Nat.add_zero];congr 2;omega
theorem kj {U D G:Nat} (hD:0<D) (h1:U<(G+1)*D) (h2:G*D<=U+D):G=U/D∨G=U/D+1:=by
 have h3:U/D<=G:=by
  have:=Nat.div_lt_of_lt_mul (show U<D*(G+1) by rw [Nat.mul_comm];exact h1);omega
 have h4:G<=U/D+1:=by
  have h5:U<(U/D+1)*D:=by rw [Nat.mul_comm];exact Nat.lt_mul_div_succ U hD
  rcases Nat.lt_or_ge (U/D+1) G with h|h
  ·exfalso;have h6:(U/D+1+1)*D<=G*D:=Nat.mul_le_mul_right _ h;rw [Nat.add_mul,Nat.one_mul] at h6;omega
  exact h
 omega
theorem mD {D U M D0 U0 dt d2 un u1 u2:Nat} (hDe:D=(dt*4294967296+d2)*M+D0) (hUe:U=((un*4294967296+u1)*4294967296+u2)*M+U0) (hD0:D0<M) (l4:d2<4294967296) (hU:U<4294967296*D):un<=dt:=by
 rcases Nat.lt_or_ge dt un with h|h
 ·exfalso;have h1:(dt*4294967296+d2+1)*M<=(dt+1)*4294967296*M:=Nat.mul_le_mul_right _ (by omega);have h2:(dt+1)*4294967296*4294967296*M<=((un*4294967296+u1)*4294967296+u2)*M:=Nat.mul_le_mul_right _ (by omega);rw [Nat.add_mul,Nat.one_mul] at h1;have h3:(dt+1)*4294967296*4294967296*M=4294967296*((dt+1)*4294967296*M):=by rw [Nat.mul_assoc ((dt+1)*4294967296),Nat.mul_left_comm]
  omega
 exact h
theorem lj {W D U M D0 U0 dt d2 t u2 G0 R0:Nat} (hDe:D=(dt*W+d2)*M+D0) (hUe:U=(t*W+u2)*M+U0) (hU0:U0<M) (l2:u2<W)
  (hGR:G0*dt+R0=t) (hR0l:R0<dt):U<(G0+1)*D:=by
 have h1:t+1<=(G0+1)*dt:=by rw [Nat.add_mul];omega
 have h2:(t+1)*(W*M)<=(G0+1)*dt*(W*M):=Nat.mul_le_mul_right _ h1;have h3:dt*(W*M)<=D:=by
  rw [hDe,Nat.add_mul,Nat.mul_assoc,Nat.add_assoc];exact Nat.le_add_right _ _
 have h3':(G0+1)*(dt*(W*M))<=(G0+1)*D:=Nat.mul_le_mul_left _ h3;rw [←Nat.mul_assoc (G0+1) dt] at h3';have h5:t*W+u2+1<=(t+1)*W:=by rw [Nat.add_mul];omega
 have h6:(t*W+u2+1)*M<=(t+1)*W*M:=Nat.mul_le_mul_right _ h5;rw [Nat.add_mul (t*W+u2),Nat.one_mul,Nat.mul_assoc (t+1)] at h6;rw [hUe];generalize (t*W+u2)*M=a at *
 generalize (t+1)*(W*M)=b at *
 omega
theorem iq {D U M D0 U0 dt d2 un u1 u2 G0 R0:Nat} (hDe:D=(dt*4294967296+d2)*M+D0) (hUe:U=((un*4294967296+u1)*4294967296+u2)*M+U0) (hU0:U0<M) (l2:u2<4294967296)
  (hGR:G0*dt+R0=un*4294967296+u1) (hR0l:R0<dt):U<(G0+1)*D:=lj hDe hUe hU0 l2 hGR hR0l
theorem mE {dt un u1 G0 R0:Nat} (hdt:2147483648<=dt) (hun:un<=dt) (l1:u1<4294967296) (hGR:G0*dt+R0=un*4294967296+u1):G0<=4294967297:=by
 rcases Nat.lt_or_ge 4294967297 G0 with h|h
 ·exfalso;have:4294967298*dt<=G0*dt:=Nat.mul_le_mul_right _ h;omega
 exact h
theorem jv {U D G U':Nat} (hD:0<D) (h:G=U/D∨G=U/D+1) (he:U'+G*D=U):G=U/D/\U'=U%D:=by
 have h1:=Nat.div_add_mod U D;rw [Nat.mul_comm] at h1;have h2:=Nat.mod_lt U hD;rcases h with h|h
 ·rw [h] at he;exact ⟨h,by omega⟩
 exfalso;rw [h,Nat.add_mul] at he;omega
theorem jw {U D G U' P:Nat} (hD:0<D) (h:G=U/D∨G=U/D+1) (hP:U'<P) (he:U'+G*D=U+P):G=U/D+1/\U'+D=P+U%D:=by
 have h1:=Nat.div_add_mod U D;rw [Nat.mul_comm] at h1;rcases h with h|h
 ·exfalso;rw [h] at he;omega
 refine ⟨h,?_⟩;rw [h,Nat.add_mul] at he;omega
theorem bl {o:List Nat} {off k d:Nat} (hk:off+k<o.length):((o.set (off+k) d).drop off).take (k+1)=(o.drop off).take k++[d]:=by
 apply List.ext_getElem?;intro i;rcases Nat.lt_trichotomy i k with h|h|h
 ·rw [List.getElem?_append_left (by simp;omega)];simp [show i<k+1 by omega,h,show ¬k=i by omega]
 ·subst h;rw [List.getElem?_append_right (by simp;omega)];simp [hk,show min i (o.length-off)=i by omega]
 rw [List.getElem?_eq_none (by simp;omega),List.getElem?_eq_none (by simp;omega)]
theorem aQ {o:List Nat} {off k:Nat} (hk:off+k<=o.length):((o.drop off).take k).length=k:=by simp;omega
theorem bm {o:List Nat} {off k:Nat} (hk:off+k<o.length):(o.drop off).take (k+1)=(o.drop off).take k++[o.getD (off+k) 0]:=by
 rw [List.take_succ_eq_append_getElem (by simp;omega)];simp [List.getD,hk]
end Go.Proofs.YtclkgcigacbmiaaGreatDoor
end
namespace Go.Proofs.YtclkgcigacbmiaaGreatDoor
open Go.RowKit Go.Proofs.Tryz
theorem gm {w w':World} {g:Nat} (h:w.grownBy w' (some g)) (p:Nat) (v:Value):w.grownBy (w'.setCell ⟨g,p,none⟩ v) (some g):=
 ⟨h.os,h.tape,h.output,by simpa using h.size,fun k hk hne=>by rw [Below.heap_setCell _ _ _ _ (fun e=>hne (by rw [e]))];exact h.block k hk hne⟩
theorem b8 {w w':World} {r:Option Nat} (h:w.grownBy w' r) (n:Nat):w.grownBy (w'.drewN n) r:=⟨h.os,h.tape,h.output,h.size,h.block⟩
theorem fm {w w':World} {g b:Nat} (h:w.grownBy w' (some g)) (hb:b<w.heap.size) (hne:b≠g) (o:Nat):w'.cell? ⟨b,o,none⟩=w.cell? ⟨b,o,none⟩:=
 World.cell?_of_block (h.block b hb (fun e=>hne (Option.some.inj e)))
theorem OwnL.drewN {w:World} {g n:Nat} {o:List Nat} (h:OwnL w g n o) (k:Nat):OwnL (w.drewN k) g n o:=h
theorem ri (S : Nat → Prop) (v : Value) (ds o : List Nat) (g off N cap n : Nat) (w : World) (hS : ∀ b, S b → b < w.heap.size ∧ b ≠ g) (hN : N ≤ 1000000000000) (hn2 : 2 ≤ n) (hdl : ds.length = n) (hoff : off + n < N) (hcap : n + 1 ≤ cap)
    (hv : al 1 aE w S [v] ds) (hown : OwnL w g N o) (htop : 2147483648 ≤ ds.getD (n - 1) 0) (hU : aa ((o.drop off).take (n + 1)) < 4294967296 * aa ds) :
    Calls prog 405 #[.slice (some ⟨g, off, none⟩) (n + 1) cap, v] w fun e w' => ∃ o', e = .returned (.int .u32 ((aa ((o.drop off).take (n + 1)) / aa ds : Nat) : Int)) ∧ OwnL w' g N o' ∧
      (∀ j, j < off ∨ off + n < j → o'.getD j 0 = o.getD j 0) ∧ aa ((o'.drop off).take (n + 1)) = aa ((o.drop off).take (n + 1)) % aa ds ∧ w.grownBy w' (some g) := by
  have hdlt := hid (cB hv)
  obtain ⟨da, dc, rfl, x1, x2, x3, x4⟩ := aw hv
  rcases x4 with rfl | ⟨db, doff, rfl, x4⟩
  · simp at hdl; omega
  rw [hdl]
  have n1 : (n : Int) - 1 = ((n - 1 : Nat) : Int) := by omega
  have n2 : (n : Int) - 2 = ((n - 2 : Nat) : Int) := by omega
  have hol := hown.1
  have hw0 : off + n < o.length := by omega
  have hw1 : off + (n - 1) < o.length := by omega
  have hw2 : off + (n - 2) < o.length := by omega
  have c0 := hown.cell hw0
  have c1 := hown.cell hw1
  have c2 := hown.cell hw2
  have hd1 : n - 1 < ds.length := by omega
  have hd2 : n - 2 < ds.length := by omega
  have k1 := (x4.u32 hd1).1
  have k2 := (x4.u32 hd2).1
  obtain ⟨un, hun⟩ : ∃ x, x = o[off + n] := ⟨_, rfl⟩
  obtain ⟨u1, hu1⟩ : ∃ x, x = o[off + (n - 1)] := ⟨_, rfl⟩
  obtain ⟨u2, hu2⟩ : ∃ x, x = o[off + (n - 2)] := ⟨_, rfl⟩
  obtain ⟨dt, hdt⟩ : ∃ x, x = ds[n - 1] := ⟨_, rfl⟩
  obtain ⟨d2, hd2'⟩ : ∃ x, x = ds[n - 2] := ⟨_, rfl⟩
  have l0 : un < 4294967296 := by rw [hun]; exact hown.2.1 _ (List.getElem_mem hw0)
  have l1 : u1 < 4294967296 := by rw [hu1]; exact hown.2.1 _ (List.getElem_mem hw1)
  have l2 : u2 < 4294967296 := by rw [hu2]; exact hown.2.1 _ (List.getElem_mem hw2)
  have l3 : dt < 4294967296 := by rw [hdt]; exact hdlt.out _ (List.getElem_mem hd1)
  have l4 : d2 < 4294967296 := by rw [hd2']; exact hdlt.out _ (List.getElem_mem hd2)
  have htop' : 2147483648 ≤ dt := by simpa [List.getD, hd1, ← hdt] using htop
  rw [← hun] at c0
  rw [← hu1] at c1
  rw [← hu2] at c2
  rw [← hdt] at k1
  rw [← hd2'] at k2
  have o1 := dl un u1 l0 l1
  obtain ⟨G0, hG0⟩ : ∃ G : Nat, G = (un * 4294967296 + u1) / dt := ⟨_, rfl⟩
  obtain ⟨R0, hR0⟩ : ∃ R : Nat, R = (un * 4294967296 + u1) % dt := ⟨_, rfl⟩
  have hGR : G0 * dt + R0 = un * 4294967296 + u1 := by rw [hG0, hR0, Nat.mul_comm]; exact Nat.div_add_mod _ _
  have hR0l : R0 < dt := by rw [hR0]; exact Nat.mod_lt _ (by omega)
  have eT : ((un * 4294967296 + u1 : Nat) : Int) = (un : Int) * 4294967296 + (u1 : Int) := by omega
  have q1 : ((un : Int) * 4294967296 + (u1 : Int)) / (dt : Int) = (G0 : Int) := by rw [hG0, Int.natCast_ediv, eT]
  have q2 : ((un : Int) * 4294967296 + (u1 : Int)) % (dt : Int) = (R0 : Int) := by rw [hR0, Int.natCast_emod, eT]
  clear eT
  have Hun := hid hun
  have Hu1 := hid hu1
  have Hu2 := hid hu2
  have Hdt := hid hdt
  have Hd2 := hid hd2'
  have HGR := hid hGR
  have HU := hid hU
  have Hol := hid hol
  have Hdl := hid hdl
  obtain ⟨D, hD⟩ : ∃ D, D = aa ds := ⟨_, rfl⟩
  obtain ⟨U, hUU⟩ : ∃ U, U = aa ((o.drop off).take (n + 1)) := ⟨_, rfl⟩
  have hM : ∃ M D0 U0, 0 < M ∧ D0 < M ∧ U0 < M ∧ D = (dt * 4294967296 + d2) * M + D0 ∧ U = ((un * 4294967296 + u1) * 4294967296 + u2) * M + U0 := by
    obtain ⟨D0, h1, h2⟩ := jt hdlt.out (n - 2) (by omega)
    obtain ⟨U0, h3, h4⟩ := ju (xs := (o.drop off).take (n + 1)) (fun x hx => hown.2.1 x (List.mem_of_mem_drop (List.mem_of_mem_take hx))) (n - 2) (by simp; omega)
    refine ⟨4294967296 ^ (n - 2), D0, U0, gT _, h1, h3, ?_, ?_⟩
    · rw [hD, h2, show n - 2 + 1 = n - 1 by omega]
      simp [List.getD, hd1, hd2, ← hdt, ← hd2']
    rw [hUU, h4, show n - 2 + 1 = n - 1 by omega, show n - 2 + 2 = n by omega]
    have g0 : ((o.drop off).take (n + 1)).getD n 0 = un := by simp [List.getD, hw0, ← hun]
    have g1 : ((o.drop off).take (n + 1)).getD (n - 1) 0 = u1 := by simp [List.getD, hw1, ← hu1, show n - 1 < n + 1 by omega]
    have g2 : ((o.drop off).take (n + 1)).getD (n - 2) 0 = u2 := by simp [List.getD, hw2, ← hu2, show n - 2 < n + 1 by omega]
    rw [g0, g1, g2]
  rw [← hD, ← hUU] at hU HU
  rw [← hD, ← hUU]
  obtain ⟨M, D0, U0, hM0, hD0, hU0, hDe, hUe⟩ := hM
  have hun_le : un ≤ dt := mD hDe hUe hD0 l4 hU
  have hG0l : G0 ≤ 4294967297 := mE htop' hun_le l1 hGR
  have hGU : U < (G0 + 1) * D := iq hDe hUe hU0 l2 hGR hR0l
  have hDpos : 0 < D := by
    rw [hDe]
    have : 1 * M ≤ (dt * 4294967296 + d2) * M := Nat.mul_le_mul_right _ (by omega)
    omega
  have HdecL := hid (fun G R h hg => ki (G := G) (R := R) hDe hUe hU0 h hg)
  have HexitL := hid (fun G R h hg hG => js (G := G) (R := R) hDe hUe hD0 hU0 (by omega) h hg hG)
  have HD := hid hD
  have HUU := hid hUU
  have HGU := hid hGU
  have HU' := hid hU
  clear hun hu1 hu2 hdt hd2' hGR hG0 hR0 hU hol hdl htop hD hUU hDe hUe hGU hM0 hD0 hU0 HU
  go_enter func405, ntmps405
  go_wp2
  go_quiet (fail)
  go_wp2
  go_quiet (fail)
  go_upto_block 0 with fail
  go_cut [7, 8] (fun s7 _ wx => ∃ G : Nat, s7 = .int .u64 G ∧ G ≤ 4294967296 ∧ Hid (U < (G + 1) * D) ∧ Hid (G * D ≤ U + D) ∧ OwnL wx g N o ∧ w.grownBy wx (some g))
  case first =>
    go_wp2_with fail
    go_loopw [7, 8] (fun s7 s8 wr => ∃ G R : Nat, s7 = .int .u64 G ∧ s8 = .int .u64 R ∧ Hid (G * dt + R = un * 4294967296 + u1) ∧ R < 4294967296 ∧ G ≤ 4294967297 ∧ Hid (U < (G + 1) * D) ∧ OwnL wr g N o ∧ w.grownBy wr (some g)) (fun s7 _ _ => (intOf s7).toNat)
    case atStart => exact ⟨G0, R0, by rw [q1], by rw [q2], HGR, by omega, hG0l, HGU, hown, b8 (b8 (World.grownBy.refl _ _) _) _⟩
    case round =>
      clear c0 c1 c2 k1 k2 hown
      obtain ⟨G, R, rfl, rfl, HG, hR, hGl, HGu, hown, hgr⟩ := hrel
      have k1 := (x4.u32 hd1).1
      have k2 := (x4.u32 hd2).1
      rw [← fm hgr (hS _ x4.1).1 (hS _ x4.1).2, ← Hdt.out] at k1
      rw [← fm hgr (hS _ x4.1).1 (hS _ x4.1).2, ← Hd2.out] at k2
      have c2 := hown.cell hw2
      rw [← Hu2.out] at c2
      by_cases hA : 4294967296 ≤ G
      · have dA : decide ((4294967296 : Int) ≤ (G : Int)) = true := by simp; omega
        have HG0 := hid (show 0 < G by omega)
        have HLT := hid (show U < G * D from Nat.lt_of_lt_of_le HU'.out (Nat.mul_le_mul_right _ hA))
        have e1 : IntKind.u64.wrap ((G : Int) - 1) = ((G - 1 : Nat) : Int) := by
          have : (G : Int) - 1 = ((G - 1 : Nat) : Int) := by omega
          rw [this]; exact IntWalk.u64_in _ (by omega)
        have e2 : IntKind.u64.wrap ((R : Int) + (dt : Int)) = (R : Int) + (dt : Int) := IntWalk.u64_in _ (by omega)
        have hq : Hid (U < (G - 1 + 1) * D) := by show U < (G - 1 + 1) * D; rw [show G - 1 + 1 = G by omega]; exact HLT.out
        have hgr2 : Hid ((G - 1) * dt + (R + dt) = un * 4294967296 + u1) := by
          show (G - 1) * dt + (R + dt) = un * 4294967296 + u1
          rw [← HG.out]
          have : G * dt = (G - 1) * dt + dt := by conv => lhs; rw [show G = G - 1 + 1 by omega, Nat.add_mul, Nat.one_mul]
          omega
        have hG1 : G - 1 ≤ 4294967296 := by omega
        by_cases hB : 4294967296 ≤ R + dt
        · have dB : decide ((4294967296 : Int) ≤ (R : Int) + (dt : Int)) = true := by simp; omega
          have hex : Hid ((G - 1) * D ≤ U + D) := HexitL.out (G - 1) (R + dt) hgr2.out (by
            have h1 : (G - 1) * d2 ≤ 4294967296 * 4294967296 := Nat.mul_le_mul hG1 (by omega)
            have h2 : 4294967296 * 4294967296 ≤ (R + dt) * 4294967296 := Nat.mul_le_mul_right _ hB
            omega) hG1
          have HB := hid hB
          clear hA hGl hB
          go_wp2
          go_quiet (fail)
          go_upto_region 7 with fail
          go_wp2
          go_meet
          case rel => exact ⟨G - 1, rfl, hG1, hq, hex, hown.drewN _, b8 hgr _⟩
        have dB : decide ((4294967296 : Int) ≤ (R : Int) + (dt : Int)) = false := by simp; omega
        have HB := hid hB
        have hRd : R + dt < 4294967296 := by omega
        have HRd := hid hRd
        clear hA hGl hB hRd
        go_wp2
        go_quiet (fail)
        go_upto_region 7 with fail
        go_wp2
        go_roundw
        case rel => exact ⟨G - 1, R + dt, rfl, by go_num, hgr2, HRd.out, by have := hG1; omega, hq, hown.drewN _, b8 hgr _⟩
        case measure => have := HG0.out; simp [intOf]; omega
      have dA : decide ((4294967296 : Int) ≤ (G : Int)) = false := by simp; omega
      have hGl' : G < 4294967296 := by omega
      have hmb := nC hGl' l4
      have e3 : IntKind.u64.wrap ((G : Int) * (d2 : Int)) = (G : Int) * (d2 : Int) := IntWalk.u64_in _ (by rw [← Int.natCast_mul]; omega)
      have o2 := dl R u2 hR l2
      by_cases hC : R * 4294967296 + u2 < G * d2
      · have dC : decide ((R : Int) * 4294967296 + (u2 : Int) < (G : Int) * (d2 : Int)) = true := by rw [← Int.natCast_mul]; simp; omega
        have HG0 := hid (show 0 < G by rcases Nat.eq_zero_or_pos G with h | h; · subst h; omega
                                       exact h)
        have HLT := hid (HdecL.out G R HG.out hC)
        have HG00 := HG0.out
        have e1 : IntKind.u64.wrap ((G : Int) - 1) = ((G - 1 : Nat) : Int) := by
          have : (G : Int) - 1 = ((G - 1 : Nat) : Int) := by omega
          rw [this]; exact IntWalk.u64_in _ (by omega)
        have e2 : IntKind.u64.wrap ((R : Int) + (dt : Int)) = (R : Int) + (dt : Int) := IntWalk.u64_in _ (by omega)
        have hq : Hid (U < (G - 1 + 1) * D) := by show U < (G - 1 + 1) * D; rw [show G - 1 + 1 = G by omega]; exact HLT.out
        have hgr2 : Hid ((G - 1) * dt + (R + dt) = un * 4294967296 + u1) := by
          show (G - 1) * dt + (R + dt) = un * 4294967296 + u1
          rw [← HG.out]
          have : G * dt = (G - 1) * dt + dt := by conv => lhs; rw [show G = G - 1 + 1 by omega, Nat.add_mul, Nat.one_mul]
          omega
        have hG1 : G - 1 ≤ 4294967296 := by omega
        by_cases hB : 4294967296 ≤ R + dt
        · have dB : decide ((4294967296 : Int) ≤ (R : Int) + (dt : Int)) = true := by simp; omega
          have hex : Hid ((G - 1) * D ≤ U + D) := HexitL.out (G - 1) (R + dt) hgr2.out (by
            have h1 : (G - 1) * d2 ≤ 4294967296 * 4294967296 := Nat.mul_le_mul hG1 (by omega)
            have h2 : 4294967296 * 4294967296 ≤ (R + dt) * 4294967296 := Nat.mul_le_mul_right _ hB
            omega) hG1
          have HB := hid hB
          clear hA hGl hB hmb hC hGl'
          go_wp2
          go_quiet (fail)
          go_upto_region 7 with fail
          go_wp2
          go_meet
          case rel => exact ⟨G - 1, rfl, hG1, hq, hex, hown.drewN _, b8 hgr _⟩
        have dB : decide ((4294967296 : Int) ≤ (R : Int) + (dt : Int)) = false := by simp; omega
        have HB := hid hB
        have hRd : R + dt < 4294967296 := by omega
        have HRd := hid hRd
        clear hA hGl hB hRd hmb hC hGl'
        go_wp2
        go_quiet (fail)
        go_upto_region 7 with fail
        go_wp2
        go_roundw
        case rel => exact ⟨G - 1, R + dt, rfl, by go_num, hgr2, HRd.out, by have := hG1; omega, hq, hown.drewN _, b8 hgr _⟩
        case measure => have := HG0.out; simp [intOf]; omega
      have dC : decide ((R : Int) * 4294967296 + (u2 : Int) < (G : Int) * (d2 : Int)) = false := by rw [← Int.natCast_mul]; simp; omega
      have hex : Hid (G * D ≤ U + D) := HexitL.out G R HG.out (by omega) (by omega)
      have hG1 : G ≤ 4294967296 := by omega
      have HG1 := hid hG1
      clear hA hGl hC hmb hGl' hG1
      go_wp2
      go_quiet (fail)
      go_wp2
      go_meet
      case rel => exact ⟨G, rfl, HG1.out, HGu, hex, hown.drewN _, b8 hgr _⟩
  case rest =>
    obtain ⟨G, rfl, hG, HGu, HGe, hownc, hgrc⟩ := hcut
    clear c0 c1 c2 k1 k2 q1 q2 o1
    have H2 := hid (kj hDpos HGu.out HGe.out)
    go_wp2
    go_loopw [9, 10, 11, 12, 13, 84] (fun c b _ _ _ i wr => ∃ (k c' b' : Nat) (o' : List Nat), k ≤ n ∧ i = .int .i64 k ∧ c = .int .u64 c' ∧ c' < 4294967296 ∧ b = .int .u32 b' ∧ b' ≤ 1 ∧ OwnL wr g N o' ∧ w.grownBy wr (some g) ∧ Hid (∀ j, (j < off ∨ off + k ≤ j) → o'.getD j 0 = o.getD j 0) ∧
      Hid (aa ((o'.drop off).take k) + G * aa (ds.take k) = aa ((o.drop off).take k) + 4294967296 ^ k * (b' + c'))) (fun _ _ _ _ _ i _ => n - (intOf i).toNat)
    case atStart => exact ⟨0, 0, 0, o, by omega, rfl, rfl, by omega, rfl, by omega, hownc, hgrc, fun j _ => rfl, by simp [Hid, aa]⟩
    case round =>
      obtain ⟨k, c', b', o', hk, rfl, rfl, hc', rfl, hb', hown', hgr, HO, HE⟩ := hrel
      have hol' := hown'.1
      by_cases hlt : k < n
      · as_aux_lemma =>
          have hlt' : k < ds.length := by have := Hdl.out; omega
          obtain ⟨f0, f1⟩ := x4.u32 hlt'
          rw [← fm hgr (hS _ x4.1).1 (hS _ x4.1).2] at f0
          have HT := hid (aK ds k hlt')
          obtain ⟨v, hv⟩ : ∃ v, v = ds[k] := ⟨_, rfl⟩
          rw [← hv] at f0 f1 HT
          clear hv
          have hko : off + k < o'.length := by omega
          have c1 := hown'.cell hko
          have c2 := hown'.frozen (off + k)
          obtain ⟨u, hu⟩ : ∃ u, u = o'[off + k] := ⟨_, rfl⟩
          have hu' : u < 4294967296 := by rw [hu]; exact hown'.2.1 _ (List.getElem_mem hko)
          have HUo := hid (show o.getD (off + k) 0 = u by rw [← HO.out (off + k) (.inr (by omega)), hu]; simp [List.getD, hko])
          rw [← hu] at c1
          clear hu
          have HTk := hid (fun d => bl (o := o') (off := off) (k := k) (d := d) hko)
          obtain ⟨lo, hlo⟩ : ∃ t : Nat, t = (G * v + c') % 4294967296 := ⟨_, rfl⟩
          obtain ⟨hi, hhi⟩ : ∃ t : Nat, t = (G * v + c') / 4294967296 := ⟨_, rfl⟩
          have hmb : G * v ≤ 4294967296 * 4294967295 := Nat.mul_le_mul hG (by omega)
          have hlh : lo + 4294967296 * hi = G * v + c' := by omega
          have hlo' : lo < 4294967296 := by omega
          have hhi' : hi < 4294967296 := by omega
          have e1 : IntKind.u64.wrap ((G : Int) * (v : Int)) = (G : Int) * (v : Int) := IntWalk.u64_in _ (by rw [← Int.natCast_mul]; omega)
          have e2 : IntKind.u64.wrap ((G : Int) * (v : Int) + (c' : Int)) = (G : Int) * (v : Int) + (c' : Int) := IntWalk.u64_in _ (by rw [← Int.natCast_mul]; omega)
          have elo : ((G : Int) * (v : Int) + (c' : Int)) % 4294967296 = (lo : Int) := by rw [← Int.natCast_mul]; omega
          have ehi : ((G : Int) * (v : Int) + (c' : Int)) / 4294967296 = (hi : Int) := by rw [← Int.natCast_mul]; omega
          obtain ⟨d, hd⟩ : ∃ d : Nat, (d : Int) = ((u : Int) - (lo : Int) - (b' : Int)) % 4294967296 := ⟨(((u : Int) - (lo : Int) - (b' : Int)) % 4294967296).toNat, by omega⟩
          obtain ⟨e, he⟩ : ∃ e : Nat, (e : Int) = bu (u : Int) (lo : Int) (b' : Int) := ⟨(bu (u : Int) (lo : Int) (b' : Int)).toNat, by have := bT (u : Int) (lo : Int) (b' : Int); omega⟩
          have hde : d + lo + b' = u + 4294967296 * e := by unfold bu at he; split at he <;> omega
          have hd1' : d < 4294967296 := by omega
          have he1 : e ≤ 1 := by have := bT (u : Int) (lo : Int) (b' : Int); omega
          have HA := hid (fun W => fk (u : Int) (lo : Int) (b' : Int) W (by omega) (by omega) (by omega) (by omega) (by omega) (by omega))
          rw [← hd, ← he] at HA
          have HDE := hid hde
          have HLH := hid hlh
          clear hd he hde hlh hmb hlo hhi
          go_wp2_with fail
          refine Calls.mono (HA.out _) ?_
          rintro e' w3 ⟨rfl, rfl⟩
          clear HA e1 e2 elo
          go_wp2
          go_roundw
          case rel =>
            refine ⟨k + 1, hi, e, o'.set (off + k) d, by omega, by go_num, rfl, hhi', rfl, he1, hown'.set hko hd1', gm hgr _ _, fun j hj => ?_, ?_⟩
            · rw [← HO.out j (by omega)]
              simp [List.getD, show ¬ off + k = j by omega]
            show aa (((o'.set (off + k) d).drop off).take (k + 1)) + G * aa (ds.take (k + 1)) = aa ((o.drop off).take (k + 1)) + 4294967296 ^ (k + 1) * (e + hi)
            have h1 := HE.out
            rw [HTk.out, ap, aQ (by omega), HT.out, bm (by have := Hol.out; omega), ap, aQ (by have := Hol.out; omega), HUo.out, Nat.mul_add, Nat.pow_succ, Nat.mul_assoc, Nat.mul_left_comm G]
            have h2 : 4294967296 ^ k * d + 4294967296 ^ k * (G * v) + 4294967296 ^ k * (b' + c') = 4294967296 ^ k * u + 4294967296 ^ k * (4294967296 * (e + hi)) := by
              rw [← Nat.mul_add, ← Nat.mul_add, ← Nat.mul_add]
              congr 1
              have := HDE.out
              have := HLH.out
              omega
            omega
          case measure => simp [intOf]; omega
      have hkn : k = n := by omega
      have hko : off + n < o'.length := by omega
      have c1 := hown'.cell hko
      have c2 := hown'.frozen (off + n)
      obtain ⟨u, hu⟩ : ∃ u, u = o'[off + n] := ⟨_, rfl⟩
      have hu' : u < 4294967296 := by rw [hu]; exact hown'.2.1 _ (List.getElem_mem hko)
      have huo : o.getD (off + n) 0 = u := by rw [← HO.out (off + n) (.inr (by omega)), hu]; simp [List.getD, hko]
      rw [← hu] at c1
      clear hu
      obtain ⟨d, hd⟩ : ∃ d : Nat, (d : Int) = ((u : Int) - (c' : Int) - (b' : Int)) % 4294967296 := ⟨(((u : Int) - (c' : Int) - (b' : Int)) % 4294967296).toNat, by omega⟩
      obtain ⟨e, he⟩ : ∃ e : Nat, (e : Int) = bu (u : Int) (c' : Int) (b' : Int) := ⟨(bu (u : Int) (c' : Int) (b' : Int)).toNat, by have := bT (u : Int) (c' : Int) (b' : Int); omega⟩
      have hde : d + c' + b' = u + 4294967296 * e := by unfold bu at he; split at he <;> omega
      have hd1' : d < 4294967296 := by omega
      have he1 : e ≤ 1 := by have := bT (u : Int) (c' : Int) (b' : Int); omega
      have HA := hid (fun W => fk (u : Int) (c' : Int) (b' : Int) W (by omega) (by omega) (by omega) (by omega) (by omega) (by omega))
      rw [← hd, ← he] at HA
      have hds : ds.take k = ds := List.take_of_length_le (by have := Hdl.out; omega)
      have hfin : aa (((o'.set (off + n) d).drop off).take (n + 1)) + G * D = U + 4294967296 ^ (n + 1) * e := by
        have h1 := HE.out
        rw [hds, ← HD.out, hkn] at h1
        rw [bl hko, ap, aQ (by omega), HUU.out, bm (by have := Hol.out; omega), ap, aQ (by have := Hol.out; omega), huo, Nat.pow_succ, Nat.mul_assoc]
        have h2 : 4294967296 ^ n * d + 4294967296 ^ n * (b' + c') = 4294967296 ^ n * u + 4294967296 ^ n * (4294967296 * e) := by
          rw [← Nat.mul_add, ← Nat.mul_add]
          congr 1
          omega
        omega
      have hout : ∀ j, j < off ∨ off + n < j → (o'.set (off + n) d).getD j 0 = o.getD j 0 := fun j hj => by
        rw [← HO.out j (by omega)]
        simp [List.getD, show ¬ off + n = j by omega]
      have hPlt : aa (((o'.set (off + n) d).drop off).take (n + 1)) < 4294967296 ^ (n + 1) := by
        have hlen : (((o'.set (off + n) d).drop off).take (n + 1)).length = n + 1 := aQ (by simp; omega)
        have := ax (xs := ((o'.set (off + n) d).drop off).take (n + 1)) (fun x hx => (hown'.set hko hd1').2.1 x (List.mem_of_mem_drop (List.mem_of_mem_take hx)))
        rwa [hlen] at this
      have HF := hid hfin
      have HOut := hid hout
      have HP := hid hPlt
      have hown2 := hown'.set hko hd1'
      have hgr2 := gm hgr (off + n) (.int .u32 d)
      obtain ⟨o2, ho2⟩ : ∃ o2, o2 = o'.set (off + n) d := ⟨_, rfl⟩
      have hl2' : o2.length = N := by rw [ho2]; simp [hol']
      have HL2 := hid hl2'
      clear hl2'
      rw [← ho2] at HF HOut HP hown2
      clear hd he hde hfin hout hPlt hds huo hkn ho2 hown'
      have hq32 : U / D < 4294967296 := Nat.div_lt_of_lt_mul (by rw [Nat.mul_comm]; exact HU'.out)
      by_cases hez : e = 0
      · as_aux_lemma =>
          subst hez
          have h0 := HF.out
          rw [Nat.mul_zero, Nat.add_zero] at h0
          have HQ := hid (jv hDpos H2.out h0)
          clear h0
          go_wp2_with fail
          refine Calls.mono (HA.out _) ?_
          rintro e' w3 ⟨rfl, rfl⟩
          clear HA
          go_wp2
          go_ret
          refine ⟨o2, ?_, hown2, HOut.out, HQ.out.2, hgr2⟩
          exact aS (by have := HQ.out.1; omega)
      as_aux_lemma =>
        have he1' : e = 1 := by omega
        subst he1'
        have h0 := HF.out
        rw [Nat.mul_one] at h0
        have HQ := hid (jw hDpos H2.out HP.out h0)
        clear h0
        go_wp2_with fail
        refine Calls.mono (HA.out _) ?_
        rintro e' w3 ⟨rfl, rfl⟩
        clear HA hez
        go_wp2
        clear c1 c2 HO HE hgr
        go_loopw [14, 15, 16, 132] (fun c _ _ i wr => ∃ (k c' : Nat) (o' : List Nat), k ≤ n ∧ i = .int .i64 k ∧ c = .int .u32 c' ∧ c' ≤ 1 ∧ OwnL wr g N o' ∧ w.grownBy wr (some g) ∧ Hid (∀ j, (j < off ∨ off + k ≤ j) → o'.getD j 0 = o2.getD j 0) ∧
          Hid (aa ((o'.drop off).take k) + 4294967296 ^ k * c' = aa ((o2.drop off).take k) + aa (ds.take k))) (fun _ _ _ i _ => n - (intOf i).toNat)
        case atStart => exact ⟨0, 0, o2, by omega, rfl, rfl, by omega, hown2, hgr2, fun j _ => rfl, by simp [Hid, aa]⟩
        case round =>
          clear hown2 hgr2
          obtain ⟨k, c', o3, hk, rfl, rfl, hc', hown3, hgr3, HO3, HE3⟩ := hrel
          have hol3 := hown3.1
          by_cases hlt : k < n
          · as_aux_lemma =>
              have hlt' : k < ds.length := by have := Hdl.out; omega
              obtain ⟨f0, f1⟩ := x4.u32 hlt'
              rw [← fm hgr3 (hS _ x4.1).1 (hS _ x4.1).2] at f0
              have HT := hid (aK ds k hlt')
              obtain ⟨v, hv⟩ : ∃ v, v = ds[k] := ⟨_, rfl⟩
              rw [← hv] at f0 f1 HT
              clear hv
              have hko : off + k < o3.length := by omega
              have c1 := hown3.cell hko
              have c2 := hown3.frozen (off + k)
              obtain ⟨x, hx⟩ : ∃ x, x = o3[off + k] := ⟨_, rfl⟩
              have hx' : x < 4294967296 := by rw [hx]; exact hown3.2.1 _ (List.getElem_mem hko)
              have HXo := hid (show o2.getD (off + k) 0 = x by rw [← HO3.out (off + k) (.inr (by omega)), hx]; simp [List.getD, hko])
              rw [← hx] at c1
              clear hx
              have HTk := hid (fun d => bl (o := o3) (off := off) (k := k) (d := d) hko)
              obtain ⟨d, hd⟩ : ∃ d : Nat, (d : Int) = ((x : Int) + (v : Int) + (c' : Int)) % 4294967296 := ⟨((x + v + c') % 4294967296), by omega⟩
              obtain ⟨e, he⟩ : ∃ e : Nat, (e : Int) = ((x : Int) + (v : Int) + (c' : Int)) / 4294967296 := ⟨((x + v + c') / 4294967296), by omega⟩
              have hde : d + 4294967296 * e = x + v + c' := by omega
              have hd1' : d < 4294967296 := by omega
              have he1 : e ≤ 1 := by omega
              have HA := hid (fun W => dQ (x : Int) (v : Int) (c' : Int) W (by omega) (by omega) (by omega) (by omega) (by omega) (by omega))
              rw [← hd, ← he] at HA
              have HDE := hid hde
              clear hd he hde
              go_wp2_with fail
              refine Calls.mono (HA.out _) ?_
              rintro e' w3 ⟨rfl, rfl⟩
              clear HA
              go_wp2
              go_roundw
              case rel =>
                have hl2 : o2.length = o3.length := by
                  have := HP.out
                  exact HL2.out.trans hol3.symm
                refine ⟨k + 1, e, o3.set (off + k) d, by omega, by go_num, rfl, he1, hown3.set hko hd1', gm hgr3 _ _, fun j hj => ?_, ?_⟩
                · rw [← HO3.out j (by omega)]
                  simp [List.getD, show ¬ off + k = j by omega]
                show aa (((o3.set (off + k) d).drop off).take (k + 1)) + 4294967296 ^ (k + 1) * e = aa ((o2.drop off).take (k + 1)) + aa (ds.take (k + 1))
                have h1 := HE3.out
                rw [HTk.out, ap, aQ (by omega), HT.out, bm (by omega), ap, aQ (by omega), HXo.out, Nat.pow_succ, Nat.mul_assoc]
                have h2 : 4294967296 ^ k * d + 4294967296 ^ k * (4294967296 * e) = 4294967296 ^ k * x + 4294967296 ^ k * v + 4294967296 ^ k * c' := by
                  rw [← Nat.mul_add, HDE.out, Nat.mul_add, Nat.mul_add]
                omega
              case measure => simp [intOf]; omega
          as_aux_lemma =>
            have hkn : k = n := by omega
            have hl2 : o2.length = o3.length := HL2.out.trans hol3.symm
            have hko : off + n < o3.length := by omega
            have c1 := hown3.cell hko
            have c2 := hown3.frozen (off + n)
            obtain ⟨x, hx⟩ : ∃ x, x = o3[off + n] := ⟨_, rfl⟩
            have hx' : x < 4294967296 := by rw [hx]; exact hown3.2.1 _ (List.getElem_mem hko)
            have hxo : o2.getD (off + n) 0 = x := by rw [← HO3.out (off + n) (.inr (by omega)), hx]; simp [List.getD, hko]
            rw [← hx] at c1
            clear hx
            obtain ⟨d, hd⟩ : ∃ d : Nat, d = (x + c') % 4294967296 := ⟨_, rfl⟩
            obtain ⟨e, he⟩ : ∃ e : Nat, e = (x + c') / 4294967296 := ⟨_, rfl⟩
            have hde : d + 4294967296 * e = x + c' := by omega
            have hd1' : d < 4294967296 := by omega
            have hdi : ((x : Int) + (c' : Int)) % 4294967296 = (d : Int) := by omega
            have hds : ds.take k = ds := List.take_of_length_le (by have := Hdl.out; omega)
            have hDlt : D < 4294967296 ^ n := by
              have := ax hdlt.out
              rw [← HD.out, Hdl.out] at this
              exact this
            have hfin : aa (((o3.set (off + n) d).drop off).take (n + 1)) = U % D := by
              have h1 := HE3.out
              rw [hds, ← HD.out, hkn] at h1
              have h3 := HQ.out.2
              rw [bm (by omega), ap, aQ (by omega), hxo] at h3
              have hlt3 : aa (((o3.set (off + n) d).drop off).take (n + 1)) < 4294967296 ^ (n + 1) := by
                have hlen : (((o3.set (off + n) d).drop off).take (n + 1)).length = n + 1 := aQ (by simp; omega)
                have := ax (xs := ((o3.set (off + n) d).drop off).take (n + 1)) (fun y hy => (hown3.set hko hd1').2.1 y (List.mem_of_mem_drop (List.mem_of_mem_take hy)))
                rwa [hlen] at this
              rw [bl hko, ap, aQ (by omega)] at hlt3 ⊢
              have h2 : 4294967296 ^ n * d + 4294967296 ^ n * (4294967296 * e) = 4294967296 ^ n * x + 4294967296 ^ n * c' := by
                rw [← Nat.mul_add, hde, Nat.mul_add]
              have h4 : U % D < 4294967296 ^ n := Nat.lt_trans (Nat.mod_lt _ hDpos) hDlt
              have h5 : 4294967296 ^ (n + 1) = 4294967296 ^ n * 4294967296 := by rw [Nat.pow_succ]
              have h6 : 4294967296 ^ n * (4294967296 * e) = 4294967296 ^ (n + 1) * e := by rw [h5, Nat.mul_assoc]
              have he01 : e = 0 ∨ e = 1 := by omega
              rcases he01 with h | h
              · subst h; omega
              subst h; omega
            have hout : ∀ j, j < off ∨ off + n < j → (o3.set (off + n) d).getD j 0 = o.getD j 0 := fun j hj => by
              rw [← HOut.out j hj, ← HO3.out j (by omega)]
              simp [List.getD, show ¬ off + n = j by omega]
            have HF3 := hid hfin
            have HOut3 := hid hout
            have e1 : IntKind.u64.wrap ((G : Int) - 1) = ((G - 1 : Nat) : Int) := by
              have h0 : 1 ≤ G := by rw [HQ.out.1]; exact Nat.le_add_left 1 _
              have : (G : Int) - 1 = ((G - 1 : Nat) : Int) := by omega
              rw [this]; exact IntWalk.u64_in _ (by omega)
            have hR : Hid (((G - 1 : Nat) : Int) = ((U / D : Nat) : Int)) := by
              show ((G - 1 : Nat) : Int) = ((U / D : Nat) : Int)
              have : G - 1 = U / D := by rw [HQ.out.1]; rfl
              rw [this]
            clear he hde hfin hout hds hxo hkn hDlt hd hl2
            go_wp2
            go_ret
            exact ⟨o3.set (off + n) d, aS hR.out, hown3.set hko hd1', HOut3.out, HF3.out, gm hgr3 _ _⟩
end Go.Proofs.YtclkgcigacbmiaaGreatDoor
section
/- Contracts of the kit's shelf, laid at this translation by the kit's own tool: bits.Len32, bits.LeadingZeros32, strings.Compare. -/
namespace Go.Proofs
open Go.Shelf Go.Proofs.Tryz
def Tryz.lays133_ren:Go.Shelf.Ren:=⟨fun|133=>403|128=>394|n=>n,fun|51=>233|3=>3|4=>4|46=>134|5=>5|9=>9|n=>n,fun|n=>n⟩
theorem Tryz.lays133:Go.Proofs.Lays.n133 prog Tryz.lays133_ren:={
 mixed:=by kernel_rfl
 f128:=func394.trans (congrArg some (by kernel_rfl))
 f133:=func403.trans (congrArg some (by kernel_rfl))
 t3:=underlying3
 a3:=Tryz.isAgg3
 z3:=Tryz.sizeOf3
 v3:=Tryz.zeroValue3
 t4:=underlying4
 a4:=Tryz.isAgg4
 z4:=Tryz.sizeOf4
 v4:=Tryz.zeroValue4
 t5:=underlying5
 a5:=Tryz.isAgg5
 z5:=Tryz.sizeOf5
 v5:=Tryz.zeroValue5
 t9:=underlying9
 a9:=Tryz.isAgg9
 z9:=Tryz.sizeOf9
 v9:=Tryz.zeroValue9
 t46:=underlying134
 a46:=Tryz.isAgg134
 z46:=Tryz.sizeOf134
 v46:=Tryz.zeroValue134
 t51:=underlying233
 a51:=Tryz.isAgg233
 z51:=Tryz.sizeOf233
 v51:=Tryz.zeroValue233}
theorem Tryz.bits_LeadingZeros32 (x:Int) (w:World) (h0:0<=x) (h1:x<=4294967295):
  Calls prog 403 #[.int .u32 x] w fun e w'=>e= .returned (.int .i64 (32-(Lib.bitLen x.toNat:Int)))/\w'=w:=Any.bits_LeadingZeros32 Tryz.lays133 x w h0 h1
def Tryz.lays106_ren:Go.Shelf.Ren:=⟨fun|106=>267|213=>331|265=>400|n=>n,fun|9=>9|3=>3|n=>n,fun|n=>n⟩
theorem Tryz.lays106:Go.Proofs.Lays.n106 prog Tryz.lays106_ren:={
 mixed:=by kernel_rfl
 f106:=func267.trans (congrArg some (by kernel_rfl))
 f213:=func331.trans (congrArg some (by kernel_rfl))
 f265:=func400.trans (congrArg some (by kernel_rfl))
 t3:=underlying3
 a3:=Tryz.isAgg3
 z3:=Tryz.sizeOf3
 v3:=Tryz.zeroValue3
 t9:=underlying9
 a9:=Tryz.isAgg9
 z9:=Tryz.sizeOf9
 v9:=Tryz.zeroValue9}
open Go.RowKit in
theorem Tryz.strings_Compare (a b:ByteArray) (w:World):
  Calls prog 267 #[.string a,.string b] w fun e w'=>e= .returned (.int .i64 (Lib.compareBytes a.data.toList b.data.toList))/\w'=w:=Any.strings_Compare Tryz.lays106 a b w
end Go.Proofs
end
namespace Go.Proofs.YtclkgcigacbmiaaGreatDoor
open Go.RowKit Go.Proofs.Tryz
theorem gn (w:World) (S:Nat->Prop):al 1 aE w S [.slice none 0 0] (ab 0):=by
 rw [aF];exact ⟨none,0,rfl,by simp,by unfold maxLen;omega,fun _=>rfl,.inl rfl⟩
theorem eQ {y:Nat} (h:(ab y).length=1):ab y=[y]/\0<y/\y<4294967296:=by
 have h1:=ah y;have h2:=aB y;match hl:ab y,h with
 |[z],_=>
  rw [hl] at h1 h2;simp only [aa] at h1;have h3:=h2 z (by simp);refine ⟨by simp;omega,?_,by omega⟩;rcases Nat.eq_zero_or_pos y with h0|h0
  ·subst h0;rw [aF] at hl;cases hl
  exact h0
theorem pR (S:Nat->Prop) (u v:Value) (x y:Nat) (w:World) (hS:∀b,S b->b<w.heap.size) (hxy:x<y) (hu:al 1 aE w S [u] (ab x)) (hv:al 1 aE w S [v] (ab y)):
  Calls prog 336 #[u,v] w fun e w'=>∃q r,e= .returned (.tuple #[q,r])/\al 1 aE w' (LT w'.heap.size) [q] (ab (x/y))/\al 1 aE w' (LT w'.heap.size) [r] (ab (x%y))/\Below w.heap.size w w':=by
 have hc:=cJ S u v x y w hS hu hv;rw [cv hxy] at hc;have HC:=hid hc;clear hc;go_enter func336,ntmps336
 go_wp2_with fail
 refine Calls.mono HC.out ?_;rintro e w1 ⟨rfl,hb1⟩;go_wp2
 go_ret2
 refine ⟨_,_,rfl,?_,?_,hb1⟩
 ·rw [Nat.div_eq_of_lt hxy];exact gn _ _
 rw [Nat.mod_eq_of_lt hxy];exact (aq ay) _ _ _ _ _ _ hu (fun b hb=>hb1.block b (hS b hb)) fun b hb=>Nat.lt_of_lt_of_le (hS b hb) hb1.size
theorem lk (S:Nat->Prop) (u v:Value) (x y:Nat) (w:World) (hS:∀b,S b->b<w.heap.size) (hl:(ab x).length<=1000000000000) (hxy:y<=x) (hy1:(ab y).length=1) (hu:al 1 aE w S [u] (ab x)) (hv:al 1 aE w S [v] (ab y)):
  Calls prog 336 #[u,v] w fun e w'=>∃q r,e= .returned (.tuple #[q,r])/\al 1 aE w' (LT w'.heap.size) [q] (ab (x/y))/\al 1 aE w' (LT w'.heap.size) [r] (ab (x%y))/\Below w.heap.size w w':=by
 obtain ⟨ey,hy0,hyW⟩:=eQ hy1;have hc:=cJ S u v x y w hS hu hv;have hcn:¬aC x y<0:=by unfold aC;rw [if_neg (by omega)];split<;>omega
 have HC:=hid hc;clear hc;have hv':=hv;have hu':=hid hu;have hvx:=hid (ah x);rw [ey] at hv';obtain ⟨va,vc,rfl,v1,v2,v3,v4⟩:=aw hv';rcases v4 with v4|⟨vb,voff,rfl,v4⟩
 ·cases v4
 have g0:=(v4.u32 (j:=0) (by simp)).1;have hvS:=hS vb v4.1;simp only [List.getElem_cons_zero,Nat.add_zero] at g0;have hsz:([y]:List Nat).length=1:=rfl;clear hv hv' ey;go_enter func336,ntmps336
 go_wp2_with fail
 refine Calls.mono HC.out ?_;rintro e w1 ⟨rfl,hb1⟩;rw [←hb1.cell (p:=⟨vb,voff,none⟩) hvS] at g0;have hu1:al 1 aE w1 (LT w1.heap.size) [u] (ab x):=(aq ay) _ _ _ _ _ _ hu'.out (fun b hb=>hb1.block b (hS b hb)) fun b hb=>Nat.lt_of_lt_of_le (hS b hb) hb1.size
 have HD:=hid (iE _ _ _ y _ (fun _ h=>h) hl hy0 hyW hu1);rw [hvx.out] at HD;have hxm:x%y<4294967296:=Nat.lt_of_lt_of_le (Nat.mod_lt _ hy0) (by omega);go_wp2_with fail
 refine Calls.mono HD.out ?_;rintro e w2 ⟨q,rfl,hq,hb2⟩;have hO:OwnL (w2.alloc (.cells #[.int .u32 ((x%y:Nat):Int)] 233)) w2.heap.size 1 [x%y]:=by
  refine ⟨rfl,fun z hz=>by simp at hz;omega,fun j=> .int .u32 (([x%y]:List Nat).getD j 0:Nat),?_,fun j=>rfl⟩;have:=Own.new w2 233 1 (fun j=> .int .u32 (([x%y]:List Nat).getD j 0:Nat));have e:(Array.range 1).map (fun j=>Value.int .u32 (([x%y]:List Nat).getD j 0:Nat))= #[.int .u32 ((x%y:Nat):Int)]:=by
   apply Array.ext';simp [List.range_succ]
  rw [e] at this;exact this
 have hT:=dO _ _ _ _ (hO.slice (by omega));have e1:aa [x%y]=x%y:=by simp [aa]
 rw [e1] at hT;have HT:=hid hT;have hb3:Below w2.heap.size w2 (w2.alloc (.cells #[.int .u32 ((x%y:Nat):Int)] 233)):=(Below.refl _ _).alloc (Nat.le_refl _) _;clear hT e1 hO hu1;go_wp2_with fail
 refine Calls.mono HT.out ?_;rintro e w3 ⟨r,rfl,rfl,hr⟩;go_wp2
 go_ret2
 exact ⟨_,_,rfl,(aq ay).below hq hb3 hb3.size,hr,hb1.step (hb2.step hb3)⟩
theorem mF {t:Nat} (h0:0<t) (h:t<4294967296):Lib.bitLen t=Nat.log2 t+1:=by
 have h1:2^Nat.log2 t<=t:=Nat.log2_self_le (by omega);have h2:t<2^(Nat.log2 t+1):=Nat.lt_log2_self;rw [Lib.bitLen_shift _ t h1 (by omega)];have:t/2^Nat.log2 t=1:=by
  apply Nat.div_eq_of_lt_le
  ·omega
  rw [Nat.pow_succ] at h2;omega
 rw [this];have:Lib.bitLen 1=1:=by decide+kernel
 omega
theorem jx {t s:Nat} (h0:0<t) (h:t<4294967296) (hs:s=32-Lib.bitLen t):s<32/\2147483648<=t*2^s/\(t+1)*2^s<=4294967296:=by
 rw [mF h0 h] at hs;have h1:2^Nat.log2 t<=t:=Nat.log2_self_le (by omega);have h2:t<2^(Nat.log2 t+1):=Nat.lt_log2_self;have h3:Nat.log2 t<32:=(Nat.log2_lt (by omega)).2 (by omega);generalize Nat.log2 t=L at *
 refine ⟨by omega,?_,?_⟩
 ·have:=Nat.mul_le_mul_right (2^s) h1;rw [←Nat.pow_add,show L+s=31 by omega] at this;simpa using this
 have:=Nat.mul_le_mul_right (2^s) (show t+1<=2^(L+1) from h2);rw [←Nat.pow_add,show L+1+s=32 by omega] at this;simpa using this
theorem gp {n:Nat} (h:n≠0):0<(ab n).getD ((ab n).length-1) 0:=by
 have hp:=bg (n:=n) (by omega);rcases Nat.eq_zero_or_pos ((ab n).getD ((ab n).length-1) 0) with h0|h0
 ·exfalso;have h1:=aX (ab n) ((ab n).length-1);rw [h0,Nat.mul_zero,show (ab n).length-1+1=(ab n).length by omega,List.take_of_length_le (Nat.le_refl _),ah] at h1;simp only [Nat.add_zero] at h1;have h2:=ax (xs:=(ab n).take ((ab n).length-1)) (fun x hx=>aB n x (List.mem_of_mem_take hx));rw [List.length_take,Nat.min_eq_left (by omega),←h1] at h2;have:=aW h2;omega
 exact h0
theorem mG {y n t s:Nat} (hn:(ab y).length=n) (hn1:1<=n) (ht:t=(ab y).getD (n-1) 0) (hs:s=32-Lib.bitLen t):
  s<32/\y*2^s<4294967296^n/\4294967296^(n-1)*2147483648<=y*2^s:=by
 have hy0:y≠0:=fun h=>by subst h;rw [aF] at hn;simp at hn;omega
 have ht0:0<t:=by rw [ht,←hn];exact gp hy0
 have htW:t<4294967296:=by
  rw [ht];have hl:n-1<(ab y).length:=by omega
  simp only [List.getD,List.getElem?_eq_getElem hl,Option.getD_some];exact aB y _ (List.getElem_mem hl)
 obtain ⟨a,b,c⟩:=jx ht0 htW hs;have h1:=aX (ab y) (n-1);rw [show n-1+1=n by omega,List.take_of_length_le (by omega),ah,←ht] at h1;have h2:=ax (xs:=(ab y).take (n-1)) (fun x hx=>aB y x (List.mem_of_mem_take hx));rw [List.length_take,Nat.min_eq_left (by omega)] at h2;have hP:4294967296^n=4294967296^(n-1)*4294967296:=by rw [←Nat.pow_succ];congr 1;omega
 rw [hP];clear hP;generalize 4294967296^(n-1)=P at *
 generalize aa ((ab y).take (n-1))=lo at *
 have hp:=Nat.pow_pos (n:=s) (show 0<2 by decide);generalize 2^s=q at *
 refine ⟨a,?_,?_⟩
 ·have e1:y<P*(t+1):=by rw [Nat.mul_add];omega
  calc y*q<P*(t+1)*q:=Nat.mul_lt_mul_of_pos_right e1 hp
   _=P*((t+1)*q):=Nat.mul_assoc _ _ _
   _<=P*4294967296:=Nat.mul_le_mul_left _ c
 calc P*2147483648<=P*(t*q):=Nat.mul_le_mul_left _ b
  _=P*t*q:=(Nat.mul_assoc _ _ _).symm
  _<=y*q:=Nat.mul_le_mul_right _ (by omega)
theorem oS {n D:Nat} (hn1:1<=n) (h:4294967296^(n-1)*2147483648<=D) {ds:List Nat} (hd:ds.length=n) (hlt:∀x∈ds,x<4294967296) (hv:aa ds=D):2147483648<=ds.getD (n-1) 0:=by
 have h1:=aX ds (n-1);rw [show n-1+1=n by omega,List.take_of_length_le (by omega),hv] at h1;have h2:=ax (xs:=ds.take (n-1)) (fun x hx=>hlt x (List.mem_of_mem_take hx));rw [List.length_take,Nat.min_eq_left (by omega)] at h2;generalize 4294967296^(n-1)=P at *
 generalize ds.getD (n-1) 0=t at *
 generalize aa (ds.take (n-1))=lo at *
 rcases Nat.lt_or_ge t 2147483648 with h3|h3
 ·exfalso;have:=Nat.mul_le_mul_left P (show t+1<=2147483648 from h3);rw [Nat.mul_add] at this;omega
 exact h3
theorem kk {X x m n s D:Nat} {ou:List Nat} (hx:x<4294967296^m) (hX:X=x*2^s) (hs:s<32) (hn1:1<=n) (hnm:n<=m) (hD:4294967296^(n-1)*2147483648<=D) (hl:ou.length=m+1) (hlt:∀x∈ou,x<4294967296) (hv:aa ou=X):
  aa (ou.drop (m-n+1))<D:=by
 have h1:=bd ou (m-n+1) (by omega);have hp:=ee hs;have e:4294967296^m=4294967296^(m-n+1)*4294967296^(n-1):=by rw [←Nat.pow_add];congr 1;omega
 have hP:=gT (m-n+1);rw [e] at hx;rw [hv,hX] at h1;clear e;generalize 4294967296^(m-n+1)=P at *
 generalize 4294967296^(n-1)=R at *
 generalize aa (ou.drop (m-n+1))=d at *
 have h2:x*2^s<P*R*2^s:=Nat.mul_lt_mul_of_pos_right hx (Nat.pow_pos (by decide));have h3:P*R*2^s<=P*R*2147483648:=Nat.mul_le_mul_left _ hp;have h4:P*d<P*(R*2147483648):=by rw [←Nat.mul_assoc];omega
 exact Nat.lt_of_lt_of_le (Nat.lt_of_mul_lt_mul_left h4) hD
theorem drop_zero {o:List Nat} {n:Nat} (hn:n<=o.length) (h:aa o<4294967296^n):aa (o.drop n)=0/\aa (o.take n)=aa o:=by
 have h1:=bd o n hn;rcases Nat.eq_zero_or_pos (aa (o.drop n)) with h0|h0
 ·rw [h0,Nat.mul_zero] at h1;exact ⟨h0,by omega⟩
 have:=Nat.mul_le_mul_left (4294967296^n) h0;rw [Nat.mul_one] at this;omega
theorem ef {ou:List Nat} {n D N k:Nat} (hl:ou.length=N) (hk:k+1+n<=N) (hlt:∀x∈ou,x<4294967296) (hD:D<4294967296^n) (hi:aa (ou.drop (k+1))<D):
  aa ((ou.drop k).take (n+1))=aa (ou.drop k)/\aa (ou.drop (k+n+1))=0/\aa (ou.drop k)<4294967296*D:=by
 have e1:(ou.drop (k+1)).drop n=ou.drop (k+n+1):=by rw [List.drop_drop];congr 1;omega
 have h1:=drop_zero (o:=ou.drop (k+1)) (n:=n) (by simp;omega) (by omega);rw [e1] at h1;have e2:(ou.drop k).drop (n+1)=ou.drop (k+n+1):=by rw [List.drop_drop];rfl
 have h2:=bd (ou.drop k) (n+1) (by simp;omega);rw [e2,h1.1,Nat.mul_zero] at h2;refine ⟨by omega,h1.1,?_⟩;have hk':k<ou.length:=by omega
 have h3:ou.drop k=ou[k]::ou.drop (k+1):=List.drop_eq_getElem_cons hk';have h4:=hlt _ (List.getElem_mem hk');rw [h3];show ou[k]+4294967296*aa (ou.drop (k+1))<_;generalize aa (ou.drop (k+1))=d at *
 omega
theorem nD {o o':List Nat} {k:Nat} (hl:o.length=o'.length) (h:∀j,k<=j->o'.getD j 0=o.getD j 0):o'.drop k=o.drop k:=by
 apply List.ext_getElem?;intro i;simp only [List.getElem?_drop];have:=h (k+i) (by omega);simp only [List.getD] at this;rcases Nat.lt_or_ge (k+i) o.length with h1|h1
 ·rw [List.getElem?_eq_getElem h1,List.getElem?_eq_getElem (by omega:k+i<o'.length)] at this ⊢;simpa using this
 rw [List.getElem?_eq_none h1,List.getElem?_eq_none (by omega:o'.length<=k+i)]
theorem nE {o o':List Nat} {k:Nat} (hl:o.length=o'.length) (h:∀j,j<k->o'.getD j 0=o.getD j 0):o'.take k=o.take k:=by
 apply List.ext_getElem?;intro i;simp only [List.getElem?_take];split
 ·rename_i hi;have:=h i hi;simp only [List.getD] at this;rcases Nat.lt_or_ge i o.length with h1|h1
  ·rw [List.getElem?_eq_getElem h1,List.getElem?_eq_getElem (by omega:i<o'.length)] at this ⊢;simpa using this
  rw [List.getElem?_eq_none h1,List.getElem?_eq_none (by omega:o'.length<=i)]
 rfl
theorem km {X D N Nq n k:Nat} {ou ou' oq:List Nat} (hl:ou.length=N) (hl':ou'.length=N) (hq:oq.length=Nq) (hkq:k<Nq) (hk:k+1+n<=N) (hlt:∀x∈ou,x<4294967296) (hD:D<4294967296^n) (hD0:0<D)
  (hi:aa (ou.drop (k+1))<D) (hX:X=aa (oq.drop (k+1))*4294967296^(k+1)*D+aa ou) (hout:∀j,j<k∨k+n<j->ou'.getD j 0=ou.getD j 0) (hw:aa ((ou'.drop k).take (n+1))=aa ((ou.drop k).take (n+1))%D):
  aa (ou'.drop k)<D/\X=aa ((oq.set k (aa ((ou.drop k).take (n+1))/D)).drop k)*4294967296^k*D+aa ou':=by
 obtain ⟨w1,w2,w3⟩:=ef hl hk hlt hD hi;rw [w1] at hw ⊢;have e1:ou'.drop (k+n+1)=ou.drop (k+n+1):=nD (by omega) fun j hj=>hout j (.inr (by omega))
 have e2:ou'.take k=ou.take k:=nE (by omega) fun j hj=>hout j (.inl hj)
 have e3:(ou'.drop k).drop (n+1)=ou'.drop (k+n+1):=by rw [List.drop_drop];rfl
 have h2:=bd (ou'.drop k) (n+1) (by simp;omega);rw [e3,e1,w2,Nat.mul_zero,hw] at h2;have hd':aa (ou'.drop k)=aa (ou.drop k)%D:=by omega
 have h3:=bd ou k (by omega);have h4:=bd ou' k (by omega);rw [e2,hd'] at h4;have h5:((oq.set k (aa (ou.drop k)/D)).drop k)=(aa (ou.drop k)/D)::oq.drop (k+1):=by
  rw [List.drop_eq_getElem_cons (by simp;omega)];congr 1
  ·simp
  rw [List.drop_set_of_lt (by omega)]
 rw [h5];have hmod:=Nat.mod_lt (aa (ou.drop k)) hD0;have hdm:=Nat.div_add_mod (aa (ou.drop k)) D;refine ⟨by omega,?_⟩;show X=(aa (ou.drop k)/D+4294967296*aa (oq.drop (k+1)))*_*D+_;rw [hX,h3,h4,Nat.pow_succ];generalize aa (ou.drop k)/D=q at *
 generalize aa (ou.drop k)%D=r at *
 rw [←hdm];generalize aa (ou.take k)=lo;generalize aa (oq.drop (k+1))=Q;generalize 4294967296^k=P;generalize 4294967296=W;simp only [Nat.add_mul,Nat.mul_add];simp only [Nat.mul_comm,Nat.mul_left_comm];omega
theorem oT {x y s Q R:Nat} (hy:0<y) (h:x*2^s=Q*4294967296^0*(y*2^s)+R) (hR:R<y*2^s):Q=x/y/\R/2^s=x%y:=by
 have hp:=Nat.pow_pos (n:=s) (show 0<2 by decide);rw [Nat.pow_zero,Nat.mul_one] at h;have h1:x*2^s/(y*2^s)=x/y:=Nat.mul_div_mul_right _ _ hp;have h2:x*2^s%(y*2^s)=x%y*2^s:=Nat.mul_mod_mul_right _ _ _;have h3:x*2^s/(y*2^s)=Q:=by
  apply Nat.div_eq_of_lt_le
  ·omega
  rw [Nat.add_mul];omega
 have h4:x*2^s%(y*2^s)=R:=by
  have:=Nat.div_add_mod (x*2^s) (y*2^s);rw [h3,Nat.mul_comm (y*2^s) Q] at this;omega
 refine ⟨by omega,?_⟩;rw [←h4,h2];exact Nat.mul_div_cancel _ hp
theorem OwnL.sliceS {w:World} {g n:Nat} {o:List Nat} (h:OwnL w g n o) (hn:n<=9223372036854775807) {S:Nat->Prop} (hS:S g):al 1 aE w S [.slice (some ⟨g,0,none⟩) n n] o:=by
 obtain ⟨h1,h2,f,h3,h4⟩:=h;refine ⟨some ⟨g,0,none⟩,n,by rw [h1],by omega,by unfold maxLen;omega,by simp,.inr ⟨g,0,rfl,hS,fun j hj=>⟨[f j],rfl,?_,?_⟩⟩⟩
 ·intro c hc;obtain rfl:c=0:=by simp at hc;omega
  simpa using h3.cell (by omega)
 refine ⟨?_,h2 _ (List.getElem_mem hj)⟩;rw [h4 j];simp [List.getD,hj]
theorem OwnL.take {w:World} {g n k:Nat} {o:List Nat} (h:OwnL w g n o) (hk:k<=n) (hn:n<=9223372036854775807) {S:Nat->Prop} (hS:S g):al 1 aE w S [.slice (some ⟨g,0,none⟩) k n] (o.take k):=by
 obtain ⟨h1,h2,f,h3,h4⟩:=h;have hl:(o.take k).length=k:=by simp;omega
 refine ⟨some ⟨g,0,none⟩,n,by rw [hl],by omega,by unfold maxLen;omega,by simp,.inr ⟨g,0,rfl,hS,fun j hj=>⟨[f j],rfl,?_,?_⟩⟩⟩
 ·intro c hc;obtain rfl:c=0:=by simp at hc;omega
  simpa using h3.cell (by omega)
 rw [List.getElem_take];refine ⟨?_,h2 _ (List.getElem_mem (by omega))⟩;rw [h4 j];simp [List.getD,show j<o.length by omega]
theorem OwnL.grown {w w':World} {g gu n:Nat} {o:List Nat} (h:OwnL w g n o) (hg:w.grownBy w' (some gu)) (hne:g≠gu):OwnL w' g n o:=by
 obtain ⟨h1,h2,f,h3,h4⟩:=h;have hlt:=h3.lt;refine ⟨h1,h2,f,?_,h4⟩;unfold Own at *
 rw [hg.block g hlt (fun e=>hne (Option.some.inj e))];exact h3
theorem OwnL.other {w:World} {g g' n:Nat} {o:List Nat} (h:OwnL w g n o) (hne:g'≠g) (p:Nat) (v:Value):OwnL (w.setCell ⟨g',p,none⟩ v) g n o:=⟨h.1,h.2.1,_,h.2.2.choose_spec.1.other hne p v,h.2.2.choose_spec.2⟩
theorem OwnL.alloc {w:World} {g n:Nat} {o:List Nat} (h:OwnL w g n o) (b:Obj):OwnL (w.alloc b) g n o:=⟨h.1,h.2.1,_,h.2.2.choose_spec.1.alloc b,h.2.2.choose_spec.2⟩
theorem mH {w w':World} {B g:Nat} (h:w.grownBy w' (some g)) (hg:B<=g) (hB:B<=w.heap.size):Below B w w':=
 ⟨h.os,h.tape,h.output,h.size,fun b hb=>h.block b (by omega) (fun e=>by have:=Option.some.inj e;omega)⟩
theorem mI (S : Nat → Prop) (u v : Value) (x y : Nat) (w : World) (hS : ∀ b, S b → b < w.heap.size) (hl : (ab x).length ≤ 999999999999) (hxy : y ≤ x) (hy2 : 2 ≤ (ab y).length) (hu : al 1 aE w S [u] (ab x)) (hv : al 1 aE w S [v] (ab y)) :
    Calls prog 336 #[u, v] w fun e w' => ∃ q r, e = .returned (.tuple #[q, r]) ∧ al 1 aE w' (LT w'.heap.size) [q] (ab (x / y)) ∧ al 1 aE w' (LT w'.heap.size) [r] (ab (x % y)) ∧ Below w.heap.size w w' := by
  have hc := cJ S u v x y w hS hu hv
  have hcn : ¬ aC x y < 0 := by unfold aC; rw [if_neg (by omega)]; split <;> omega
  have HC := hid hc
  clear hc
  have hnm : (ab y).length ≤ (ab x).length := by
    apply aW
    have := ax (aB x)
    rw [ah] at this
    omega
  have hu' := hid hu
  have hv' := hid hv
  have hUU := fun (w' : World) (hb : Below w.heap.size w w') => (aq ay) _ _ _ _ _ _ hu (fun b h => hb.block b (hS b h)) fun b h => Nat.lt_of_lt_of_le (hS b h) hb.size
  have hVV := fun (w' : World) (hb : Below w.heap.size w w') => (aq ay) _ _ _ _ _ _ hv (fun b h => hb.block b (hS b h)) fun b h => Nat.lt_of_lt_of_le (hS b h) hb.size
  have HU := hid hUU
  have HV := hid hVV
  clear hUU hVV
  have hxW : x < 4294967296 ^ (ab x).length := by
    have := ax (aB x)
    rwa [ah] at this
  obtain ⟨xa, xc, rfl, x1, x2, x3, x4⟩ := aw hu
  obtain ⟨ya, yc, rfl, y1, y2, y3, y4⟩ := aw hv
  obtain ⟨n, hn⟩ : ∃ n, n = (ab y).length := ⟨_, rfl⟩
  obtain ⟨m, hm⟩ : ∃ m, m = (ab x).length := ⟨_, rfl⟩
  rw [← hm] at hxW hl hnm
  rw [← hn] at hnm hy2
  rcases y4 with y4 | ⟨vb, voff, rfl, y4⟩
  · rw [y4] at hn; simp at hn; omega
  have hn1 : n - 1 < (ab y).length := by omega
  have g0 := (y4.u32 hn1).1
  have hvS := hS vb y4.1
  have htW : (ab y)[n - 1] < 4294967296 := aB y _ (List.getElem_mem hn1)
  obtain ⟨t, ht⟩ : ∃ t, t = (ab y)[n - 1] := ⟨_, rfl⟩
  rw [← ht] at g0 htW
  have htD : t = (ab y).getD (n - 1) 0 := by rw [ht]; simp [List.getD, hn1]
  obtain ⟨s, hs⟩ : ∃ s, s = 32 - Lib.bitLen t := ⟨_, rfl⟩
  obtain ⟨hs32, hD1, hD2⟩ := mG hn.symm (by omega) htD hs
  have hy0 : 0 < y := by
    rcases Nat.eq_zero_or_pos y with h | h
    · rw [h, aF] at hn; simp at hn; omega
    exact h
  have hbl : Lib.bitLen t ≤ 32 := Lib.bitLen_le t 32 (by decide) htW
  have HLZ : Hid (∀ w : World, Calls prog 403 #[.int .u32 t] w fun e w' => e = .returned (.int .i64 (s : Int)) ∧ w' = w) := fun w => by
    have := Tryz.bits_LeadingZeros32 t w (by omega) (by omega)
    rw [show ((t : Nat) : Int).toNat = t by omega] at this
    rwa [show (32 - (Lib.bitLen t : Int)) = (s : Int) by omega] at this
  have hmk := fun (w : World) => bo (P := prog) underlying363 Tryz.infoU32 rfl w (m - n + 1) (by omega) (by omega)
  have hX1 : x * 2 ^ s < 4294967296 ^ (m + 1) := by
    have := ee hs32
    rw [Nat.pow_succ]
    calc x * 2 ^ s < 4294967296 ^ m * 2 ^ s := Nat.mul_lt_mul_of_pos_right hxW (Nat.pow_pos (by decide))
      _ ≤ _ := Nat.mul_le_mul_left _ (by omega)
  have HN := hid (show _ ∧ _ ∧ _ ∧ _ from ⟨hD1, hD2, hX1, hxW⟩)
  clear hD1 hD2 hX1 hxW htD hs hbl hu hv
  rw [← hn] at y1
  rw [← hm] at x1
  have HMN := hid (show _ ∧ _ from ⟨hm, hn⟩)
  obtain ⟨rr, hrr⟩ : ∃ r, r = m - n := ⟨_, rfl⟩
  obtain ⟨Q, hQ⟩ : ∃ r, r = m - n + 1 := ⟨_, rfl⟩
  obtain ⟨m1, hm1⟩ : ∃ r, r = m + 1 := ⟨_, rfl⟩
  simp only [← hQ] at hmk
  have hmn1 : ((m : Int) - (n : Int)) = (rr : Int) := by omega
  have hmn2 : ((rr : Int) + 1) = (Q : Int) := by omega
  have hmn3 : ((Q : Int) - 1) = (rr : Int) := by omega
  have hm1' : ((m : Int) + 1) = (m1 : Int) := by omega
  have hnn1 : ((n : Int) - 1) = ((n - 1 : Nat) : Int) := by omega
  rw [← hn] at HC hv' HV ⊢
  rw [← hm] at HC hu' HU ⊢
  have hm1b : m1 ≤ 1000000000000 := by omega
  have hQb : Q ≤ 1000000000000 := by omega
  have HM1 := hid hm1
  have HQ := hid hQ
  clear hm1 hQ hrr
  have hne1 : ¬ ((n : Int) = 1) := by omega
  clear ht hm hn y4 x4 hv' hu'
  go_enter func336, ntmps336
  go_wp2_with fail
  refine Calls.mono HC.out ?_
  rintro e w1 ⟨rfl, hb1⟩
  rw [← hb1.cell (p := ⟨vb, voff + (n - 1), none⟩) hvS] at g0
  go_wp2_with fail
  refine Calls.mono (HLZ.out _) ?_
  rintro e w2 ⟨rfl, rfl⟩
  go_wp2_with fail
  have hS1 := kh _ _ _ s n w2 (fun _ h => h) (by omega) hs32 (by rw [← HMN.out.2]; exact Nat.le_refl _) (by rw [ah]; exact HN.out.1) (HV.out w2 hb1)
  rw [ah] at hS1
  have HS1 := hid hS1
  clear hS1
  refine Calls.mono HS1.out ?_
  rintro e w3 ⟨gd, ds, rfl, hgd, hod, hdv, hb3⟩
  have HDV := hid hdv
  clear hdv
  have hb13 := hb1.step hb3
  go_wp2_with fail
  have hS2 := kh _ _ _ s m1 w3 (fun _ h => h) (by omega) hs32 (by rw [← HMN.out.1]; have := HM1.out; omega) (by rw [ah, HM1.out]; exact HN.out.2.2.1) (HU.out w3 hb13)
  rw [ah] at hS2
  have HS2 := hid hS2
  clear hS2
  refine Calls.mono HS2.out ?_
  rintro e w4 ⟨gu, ou, rfl, hgu, hou, huv, hb4⟩
  have HUV := hid huv
  clear huv
  have hgd3 := hod.lt
  have hod4 := hod.below hb4 hgd3
  have hgdu : gd ≠ gu := by omega
  have hgu4 := hou.lt
  have hb14 := hb13.step hb4
  clear HS1 HS2 HC
  go_wp2
  clear hmk
  have HQ' := hid (show Q + n = m1 by have := HQ.out; have := HM1.out; omega)
  have hrq : rr + 1 = Q := by omega
  have hD0 : 0 < y * 2 ^ s := Nat.mul_pos hy0 (Nat.pow_pos (by decide))
  have HD0 := hid hD0
  have hqu : w4.heap.size ≠ gu := by omega
  have hqd : w4.heap.size ≠ gd := by omega
  have hwq : w.heap.size ≤ w4.heap.size := hb14.size
  have hwu : w.heap.size ≤ gu := by have := hb13.size; omega
  clear hD0
  go_loopw [13] (fun i wr => ∃ (k : Nat) (ou oq : List Nat), k ≤ Q ∧ i = .int .i64 ((k : Int) - 1) ∧ Below w.heap.size w wr ∧ OwnL wr gd n ds ∧ OwnL wr gu m1 ou ∧ OwnL wr w4.heap.size Q oq ∧
      Hid (aa (ou.drop k) < y * 2 ^ s) ∧ Hid (x * 2 ^ s = aa (oq.drop k) * 4294967296 ^ k * (y * 2 ^ s) + aa ou)) (fun i _ => (intOf i + 1).toNat)
  case atStart =>
    refine ⟨Q, ou, _, Nat.le_refl _, by rw [hmn3], hb14.alloc hwq _, hod4.alloc _, hou.alloc _, OwnL.new _ _, ?_, ?_⟩
    · show aa (ou.drop Q) < _
      rw [HQ.out]
      exact kk HN.out.2.2.2 rfl hs32 (by omega) hnm HN.out.2.1 (by rw [hou.1]; exact HM1.out) hou.2.1 HUV.out
    show x * 2 ^ s = _
    rw [HUV.out, List.drop_of_length_le (by simp)]
    simp [aa]
  case round =>
    obtain ⟨k, o, oq, hk, rfl, hbw, hod', hou', hoq', HI, HX⟩ := hrel
    cases k with
    | zero =>
      have hx1 := HX.out
      have hx2 := HI.out
      rw [List.drop_zero] at hx1 hx2
      obtain ⟨hq1, hr1⟩ := oT hy0 hx1 hx2
      have htk := drop_zero (o := o) (n := n) (by rw [hou'.1]; omega) (Nat.lt_trans hx2 HN.out.1)
      have hT : Hid (∀ wr' : World, OwnL wr' w4.heap.size Q oq → Calls prog 332 #[.slice (some ⟨w4.heap.size, 0, none⟩) Q Q] wr' fun e w' => ∃ r, e = .returned r ∧ wr' = w' ∧ al 1 aE wr' (LT wr'.heap.size) [r] (ab (x / y))) := fun wr' h => by
        have := dO _ _ _ _ (h.slice (by omega))
        rw [hq1] at this
        exact this
      have hU : Hid (∀ wr' : World, OwnL wr' gu m1 o → Calls prog 406 #[.slice (some ⟨gu, 0, none⟩) n m1, .int .u64 s] wr' fun e w' => ∃ r, e = .returned r ∧ al 1 aE w' (LT w'.heap.size) [r] (ab (x % y)) ∧ Below wr'.heap.size wr' w') := fun wr' h => by
        have := mC (LT wr'.heap.size) _ (o.take n) s wr' (fun _ h => h) (by simp; omega) hs32 (h.take (by omega) (by omega) h.lt)
        rw [htk.2, hr1] at this
        exact this
      have hnm1 : n ≤ m1 := by omega
      clear hx1 hx2 hq1 hr1 htk
      go_wp2_with fail
      go_region_with (first
        | (go_at_call 332; refine Calls.mono (hT.out _ ?h1) ?_; exact hoq'; rintro e w5 ⟨q, rfl, rfl, hq⟩)
        | (go_at_call 406; refine Calls.mono (hU.out _ ?h2) ?_; exact hou'; rintro e w6 ⟨r, rfl, hr, hb6⟩))
      all_goals (try go_wp2)
      go_ret2
      exact ⟨_, _, rfl, (aq ay).below hq hb6 hb6.size, hr, Below.step (a := wr.drew) (Below.drew hbw) hb6⟩
    | succ k =>
      rw [show (((k + 1 : Nat) : Int) - 1) = (k : Int) by omega]
      have HST := hid (fun cap (hc : n + 1 ≤ cap) => ri (· = gd) _ ds o gu k m1 cap n wr (fun b hb => by subst hb; exact ⟨hod'.lt, hgdu⟩) (by omega) hy2 hod'.1 (by have := HQ'.out; omega) hc (hod'.sliceS (by omega) rfl) hou' (oS (by omega) HN.out.2.1 hod'.1 hod'.2.1 HDV.out) (by
        rw [HDV.out]
        have := ef (k := k) hou'.1 (by have := HQ'.out; omega) hou'.2.1 HN.out.1 HI.out
        rw [this.1]; exact this.2.2))
      have hkQ : k < Q := by omega
      have hkm : k + n < m1 := by have := HQ'.out; omega
      go_wp2_with fail
      rw [show k + n + 1 - k = n + 1 by omega]
      refine Calls.mono (HST.out _ ?hcap) ?_
      case hcap => omega
      rintro e wn ⟨o', rfl, hon, hout, hwin, hgr⟩
      obtain ⟨hr1, hr2⟩ := km hou'.1 hon.1 hoq'.1 hkQ (by have := HQ'.out; omega) hou'.2.1 HN.out.1 HD0.out HI.out HX.out hout (by rw [← HDV.out]; exact hwin)
      have hdn := hod'.grown hgr hgdu
      have hqn := hoq'.grown hgr hqu
      have hbn : Below w.heap.size wr wn := mH hgr hwu hbw.size
      have hko : k < oq.length := by rw [hoq'.1]; exact hkQ
      have c1 := hqn.cell hko
      have c2 := hqn.frozen k
      obtain ⟨d, hd⟩ : ∃ d, d = aa ((o.drop k).take (n + 1)) / aa ds := ⟨_, rfl⟩
      have hdW : d < 4294967296 := by
        rw [hd, HDV.out]
        have := ef (k := k) hou'.1 (by have := HQ'.out; omega) hou'.2.1 HN.out.1 HI.out
        rw [this.1]
        exact Nat.div_lt_of_lt_mul (by rw [Nat.mul_comm]; exact this.2.2)
      rw [← HDV.out, ← hd] at hr2
      rw [← hd]
      have HR1 := hid hr1
      have HR2 := hid hr2
      clear hr1 hr2 hout hwin hd HST
      go_wp2
      go_roundw
      case rel =>
        refine ⟨k, o', oq.set k d, by omega, rfl, (hbw.trans hbn).setCell hwq _, hdn.other hqd _ _, hon.other hqu _ _, hqn.set hko hdW, HR1.out, ?_⟩
        rw [HDV.out] at HR2
        exact HR2.out
      case measure => simp [intOf]
theorem cV {a b:Nat} (h:a<=b):(ab a).length<=(ab b).length:=by
 apply aW;have:=ax (aB b);rw [ah] at this;omega
theorem jy (S:Nat->Prop) (u v:Value) (x y:Nat) (w:World) (hS:∀b,S b->b<w.heap.size) (hl:(ab x).length<=999999999999) (hy:0<y) (hu:al 1 aE w S [u] (ab x)) (hv:al 1 aE w S [v] (ab y)):
  Calls prog 336 #[u,v] w fun e w'=>∃q r,e= .returned (.tuple #[q,r])/\al 1 aE w' (LT w'.heap.size) [q] (ab (x/y))/\al 1 aE w' (LT w'.heap.size) [r] (ab (x%y))/\Below w.heap.size w w':=by
 have:=bg hy;by_cases h1:x<y
 ·exact pR S u v x y w hS h1 hu hv
 by_cases h2:(ab y).length=1
 ·exact lk S u v x y w hS (by omega) (by omega) h2 hu hv
 exact mI S u v x y w hS hl (by omega) (by omega) hu hv
theorem gX (a b:ByteArray) (w:World) (ha:a.size<=500000000000) (hb:b.size<=500000000000) (h:0<ac b):
  Calls prog 277 #[.string a,.string b] w fun e w'=>e= .returned (.tuple #[.string (ae (ac a/ac b)),.string (ae (ac a%ac b)),.bool true])/\Below w.heap.size w w':=by
 have la:=bb a;have lb:=bb b;have hbl:=bg h;have hne:¬((ab (ac b)).length:Int)=0:=by omega
 have lq:=cV (Nat.div_le_self (ac a) (ac b));have lr:=cV (Nat.mod_le (ac a) (ac b));have vq:=ah (ac a/ac b);have vr:=ah (ac a%ac b);have H1:=hid (bw b w (by omega));have H2:=hid (fun w=>bw a w (by omega));have H3:=hid (fun u v w h1 h2=>jy _ u v (ac a) (ac b) w (fun _ h=>h) (by omega) h h1 h2);generalize ac a/ac b=q at *
 generalize ac a%ac b=r at *
 have HL:=hid (show (ab q).length<=1000000000000/\(ab r).length<=1000000000000/\aa (ab q)=q/\aa (ab r)=r from ⟨by omega,by omega,vq,vr⟩);clear lq lr vq vr h hbl la;go_enter func277,ntmps277
 go_wp2_with fail
 refine Calls.mono H1.out ?_;rintro e w1 ⟨v,rfl,hv,hb1⟩;have hv':=hid hv;obtain ⟨va,vc,rfl,v1,v2,v3,v4⟩:=aw hv;clear hv v4;generalize hm:(ab (ac b)).length=m at *
 go_wp2_with fail
 refine Calls.mono (H2.out _) ?_;rintro e w2 ⟨u,rfl,hu,hb2⟩;have hv2:=(aq ay).below hv'.out hb2 hb2.size;have HD:=hid (H3.out _ _ _ hu hv2);have hbb:=hb1.step hb2;clear hu hv2 hv' hm;go_wp2_with fail
 refine Calls.mono HD.out ?_;rintro e w3 ⟨q',r',rfl,hq,hr,hb3⟩;have HQ:=hid (cI _ _ _ w3 (fun _ h=>h) HL.out.1 hq);have HR:=hid hr;have HB:=hid (hbb.step hb3);clear hr hq;rw [HL.out.2.2.1] at HQ;go_wp2_with fail
 refine Calls.mono HQ.out ?_;rintro e w4 ⟨rfl,hb4⟩;have hr4:=(aq ay).below HR.out hb4 hb4.size;have HR4:=hid (cI _ _ _ w4 (fun _ h=>h) HL.out.2.1 hr4);rw [HL.out.2.2.2] at HR4;clear hr4;go_wp2_with fail
 refine Calls.mono HR4.out ?_;rintro e w5 ⟨rfl,hb5⟩;go_wp2
 go_ret3
 exact ⟨rfl,HB.out.step (hb4.step hb5)⟩
def mJ (w:World):Value->Nat
 | .slice (some a) n _=>aa ((List.range n).map fun j=>match w.cell? ⟨a.block,a.off+j,none⟩ with|some (.int _ x)=>x.toNat|_=>0)
 |_=>0
theorem gr {w:World} {S:Nat->Prop} {v:Value} {xs:List Nat} (h:al 1 aE w S [v] xs):mJ w v=aa xs:=by
 obtain ⟨a,cap,rfl,h1,h2,h3,h4⟩:=aw h;rcases h4 with rfl|⟨b,off,rfl,h4⟩
 ·cases a<;>simp [mJ,aa]
 simp only [mJ];congr 1;apply List.ext_getElem (by simp);intro j hj1 hj2;simp only [List.getElem_map,List.getElem_range];rw [(h4.u32 hj2).1];simp
theorem ll (a b:ByteArray) (w:World) (ha:a.size<=500000000000) (hb:b.size<=500000000000):
  Calls prog 276 #[.string a,.string b] w fun e w'=>e= .returned (.string (ae (Nat.gcd (ac a) (ac b))))/\Below w.heap.size w w':=by
 have la:=bb a;have lb:=bb b;have H1:=hid (bw a w (by omega));have H2:=hid (fun w=>bw b w (by omega));obtain ⟨A,hA⟩:∃A,A=ac a:=⟨_,rfl⟩;obtain ⟨B,hB⟩:∃A,A=ac b:=⟨_,rfl⟩;rw [←hA] at la H1 ⊢;rw [←hB] at lb H2 ⊢;have hla:(ab A).length<=500000000000:=by omega
 have hlb:(ab B).length<=500000000000:=by omega
 clear la lb hA hB;go_enter func276,ntmps276
 go_wp2_with fail
 refine Calls.mono H1.out ?_;rintro e w1 ⟨u,rfl,hu,hb1⟩;have HU:=hid hu;clear hu;go_wp2_with fail
 refine Calls.mono (H2.out _) ?_;rintro e w2 ⟨v,rfl,hv,hb2⟩;have HU2:=hid ((aq ay).below HU.out hb2 hb2.size);have HV2:=hid hv;have HB:=hid (hb1.step hb2);clear hv;have HLa:=hid hla;have HLb:=hid hlb;clear hla hlb;go_wp2
 go_loopw [5,6,7,8] (fun p q _ _ wr=>∃(x y:Nat),Hid (al 1 aE wr (LT wr.heap.size) [p] (ab x))/\Hid (al 1 aE wr (LT wr.heap.size) [q] (ab y))/\Hid (Below w.heap.size w wr)/\Hid (Nat.gcd x y=Nat.gcd A B)/\Hid ((ab x).length<=500000000000)/\Hid ((ab y).length<=500000000000)) (fun _ q _ _ wr=>mJ wr q)
 case atStart=>exact ⟨A,B,HU2,HV2,HB,rfl,HLa,HLb⟩
 case round=>
  clear HU2 HV2 HB HU H1 H2;obtain ⟨x,y,HX,HY,HB,HG,HLx,HLy⟩:=hrel;have hy:=HY.out;have hms:=hid (gr hy);rw [ah] at hms;obtain ⟨qa,qc,rfl,q1,q2,q3,q4⟩:=aw hy;clear q4 hy;by_cases h0:0<y
  ·have hyl:=bg h0;have HD:=hid (jy _ _ _ x y _ (fun _ h=>h) (Nat.le_trans HLx.out (by decide)) h0 HX.out HY.out);have HLr:=hid (Nat.le_trans (cV (Nat.le_of_lt (Nat.mod_lt x h0))) HLy.out);have HGr:=hid (show Nat.gcd y (x%y)=Nat.gcd A B by rw [←HG.out,Nat.gcd_comm y,←Nat.gcd_rec,Nat.gcd_comm]);have H0:=hid (Nat.mod_lt x h0);generalize x%y=z at *
   obtain ⟨n,hn⟩:∃n,n=(ab y).length:=⟨_,rfl⟩;rw [←hn] at HD HY q1 hms hyl ⊢;clear HLx HG HX h0 hn;go_wp2_with fail
   refine Calls.mono HD.out ?_;rintro e w3 ⟨q',r',rfl,hq,hr,hb3⟩;have HR:=hid hr;have HB3:=hid (HB.out.step hb3);have hms3:=hid (gr hr);rw [ah] at hms3;have HY3:=hid ((aq ay).below HY.out hb3 hb3.size);clear hq hr;go_wp2
   go_roundw
   case rel=>exact ⟨y,z,HY3,HR,HB3,HGr,HLy,HLr⟩
   case measure=>
    have e1:=hms.out;have e2:=hms3.out;have e3:=H0.out;rw [e1];rw [e2];exact e3
  have hy0:y=0:=by omega
  subst hy0;rw [aF] at q1 hms ⊢;have HT:=hid (cI _ _ _ _ (fun _ h=>h) (Nat.le_trans HLx.out (by decide)) HX.out);have hg:=HG.out;rw [Nat.gcd_zero_right] at hg;rw [ah,hg] at HT;go_wp2_with fail
  refine Calls.mono HT.out ?_;rintro e w4 ⟨rfl,hb4⟩;go_wp2
  go_ret
  exact ⟨rfl,HB.out.step hb4⟩
end Go.Proofs.YtclkgcigacbmiaaGreatDoor
