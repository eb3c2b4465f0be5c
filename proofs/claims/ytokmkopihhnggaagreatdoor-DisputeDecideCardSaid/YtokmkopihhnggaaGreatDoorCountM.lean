/- dispute.Count and the reference's Count, walked: both return cnt, for every list of disputes. -/
import Derived.Test.YtokmkopihhnggaaGreatDoorProg
import Derived.Test.YtokmkopihhnggaaGreatDoorJfM
import Derived.Outline
set_option linter.unusedVariables false
set_option maxHeartbeats 400000
set_option linter.unusedSimpArgs false
namespace Go.Proofs.YtokmkopihhnggaaGreatDoor
open Go.RowKit Go.Proofs.Tryz
def mu (x:Int):Int:=if 4097<x then 4097 else x
def m0 (n:Int) (k:Nat):Int:=mu (n*mu k)
def cnt (l:List GDisp):Int:=l.foldl (fun n d=>m0 n d.opts.length) 1
theorem Ji {x:Int} (h:0<=x):0<=mu x/\mu x<=4097:=by unfold mu;split<;>omega
theorem JT {n:Int} {k:Nat} (h:0<=n):0<=m0 n k/\m0 n k<=4097:=
 Ji (Int.mul_nonneg h (Ji (Int.natCast_nonneg k)).1)
theorem Lh (l:List GDisp):∀n:Int,0<=n->n<=4097->0<=l.foldl (fun n d=>m0 n d.opts.length) n/\l.foldl (fun n d=>m0 n d.opts.length) n<=4097:=by
 induction l with
 |nil=>intro n h1 h2;exact ⟨h1,h2⟩
 |cons d r ih=>intro n h1 h2;exact ih _ (JT h1).1 (JT h1).2
theorem MA (l:List GDisp):0<=cnt l/\cnt l<=4097:=Lh l 1 (by omega) (by omega)
theorem MB (l:List GDisp) (k:Nat) (h:k<l.length):cnt (l.take (k+1))=m0 (cnt (l.take k)) l[k].opts.length:=by
 unfold cnt;rw [List.take_succ_eq_append_getElem h,List.foldl_append];rfl
theorem Ng {x y:Int} (h0:0<=x) (h1:x<=4097) (h2:0<=y) (h3:y<=4097):0<=x*y/\x*y<=16785409:=by
 refine ⟨Int.mul_nonneg h0 h2,?_⟩;have:=Int.mul_le_mul h1 h3 h2 (by omega:(0:Int)<=4097);omega
theorem Nh (l:List GDisp) (k:Nat) (h:k<l.length):
  Value.int .i64 (if 4097<wrap64 (cnt (l.take k)*if 4097<(l[k].opts.length:Int) then 4097 else (l[k].opts.length:Int)) then 4097 else wrap64 (cnt (l.take k)*if 4097<(l[k].opts.length:Int) then 4097 else (l[k].opts.length:Int)))
   =Value.int .i64 (cnt (l.take (k+1))):=by
 have h1:=MA (l.take k);have h2:=Ji (Int.natCast_nonneg l[k].opts.length);have h3:=Ng h1.1 h1.2 h2.1 h2.2;have e:wrap64 (cnt (l.take k)*mu (l[k].opts.length:Int))=cnt (l.take k)*mu (l[k].opts.length:Int):=by
  rw [IntWalk.wrap64_in]<;>omega
 show Value.int .i64 (mu (wrap64 (cnt (l.take k)*mu (l[k].opts.length:Int))))=_;rw [e,MB l k h];rfl
theorem J9 (v:Value) (l:List GDisp) (w:World) (hv:aH 3 J0 w (LT w.heap.size) [v] l):
  Calls prog 57 #[v] w fun e w'=>e= .returned (.int .i64 (cnt l))/\Below w.heap.size w w':=by
 obtain ⟨a,cap,hv,h1,h2,_,h4⟩:=hv;simp only [List.cons.injEq,and_true] at hv;subst hv;have hn:=eB h1 h2;go_enter func57,ntmps57
 go_wp2
 go_loopw [3,8] (fun n i wr=>∃k:Nat,k<=l.length/\n= .int .i64 (cnt (l.take k))/\i= .int .i64 k/\Below w.heap.size w wr) (fun _ i _=>l.length-(intOf i).toNat)
 case atStart=>exact ⟨0,Nat.zero_le _,rfl,rfl,Below.refl _ _⟩
 case round=>
  obtain ⟨k,hk,rfl,rfl,hbel⟩:=hrel;by_cases hlt:k<l.length
  ·rcases h4 with rfl|⟨b,off,rfl,h4⟩
   ·simp at hlt
   obtain ⟨a',cap',g0,g1,g2,_⟩:=h4.disp hbel hlt;go_wp2
   go_roundw
   case rel=>exact ⟨k+1,by omega,Nh l k hlt,by go_num,hbel.alloc hbel.size _⟩
   case measure=>simp [intOf];omega
  go_wp2
  go_ret
  exact ⟨by rw [List.take_of_length_le (by omega)];rfl,hbel⟩
theorem Kq (k:Nat):m0 0 k=0:=by unfold m0 mu;simp
theorem Kr (l:List GDisp):l.foldl (fun n d=>m0 n d.opts.length) 0=0:=by
 induction l with
 |nil=>rfl
 |cons d r ih=>rw [List.foldl_cons,Kq];exact ih
theorem LX (l:List GDisp) (k:Nat) (h:k<l.length) (h0:l[k].opts.length=0):cnt l=0:=by
 have e:l=l.take k++l[k]::l.drop (k+1):=by rw [←List.drop_eq_getElem_cons h,List.take_append_drop]
 unfold cnt;rw [e,List.foldl_append,List.foldl_cons,h0];have:∀n,m0 n 0=0:=fun n=>by unfold m0 mu;simp
 rw [this,Kr]
theorem Tryz.infoInt:(prog.info? 3).map (fun i=>(i.zero,i.size,i.bytes))=some (some (.int .i64 0),1,8):=by kernel_rfl
def kB (l:List GDisp) (k:Int):Nat->Int
 |0=>k
 |i+1=>kB l k i/(l[i]?.map fun d=>(d.opts.length:Int)).getD 1
def Jj (l:List GDisp) (k:Int):List Int:=(List.range l.length).map fun i=>kB l k i%(l[i]?.map fun d=>(d.opts.length:Int)).getD 1
theorem Ks (l:List GDisp) (k:Int) (i:Nat) (h:i<l.length):kB l k (i+1)=kB l k i/(l[i].opts.length:Int):=by
 simp [kB,h]
theorem JU (l:List GDisp) (k:Int) (h:0<=k) (i:Nat):0<=kB l k i/\kB l k i<=k:=by
 induction i with
 |zero=>exact ⟨h,Int.le_refl _⟩
 |succ i ih=>
  unfold kB;generalize hm:(l[i]?.map fun d=>(d.opts.length:Int)).getD 1=m;have hm0:0<=m:=by
   rw [←hm];cases l[i]? with
   |none=>simp
   |some d=>simp
  refine ⟨Int.ediv_nonneg ih.1 hm0,Int.le_trans (Int.ediv_le_self _ ih.1) ih.2⟩
theorem JV (v : Value) (l : List GDisp) (k : Int) (w : World) (h0 : 0 ≤ k) (hc : k < cnt l) (hm : cnt l ≤ 4096) (hs : l.length ≤ 1000000) (hv : aH 3 J0 w (LT w.heap.size) [v] l) :
    Calls prog 56 #[v, .int .i64 k] w fun e w' =>
      ∃ u, e = .returned (.tuple #[u, .bool true]) ∧ aH 1 IV w' (LT w'.heap.size) [u] (Jj l k) ∧ Below w.heap.size w w' := by
  have hv' := hv
  obtain ⟨a, cap, hv, h1, h2, _, h4⟩ := hv
  simp only [List.cons.injEq, and_true] at hv
  subst hv
  have hmk := fun (w : World) => cz (P := prog) underlying58 Tryz.infoInt rfl w l.length (by omega) (by omega)
  go_enter func56, ntmps56
  go_wp2_with fail
  refine (J9 _ l _ hv').mono ?_
  rintro e w1 ⟨rfl, hb1⟩
  go_wp2
  go_loopw [1, 8, 9, 28] (fun r _ _ i wr => ∃ (m : Nat) (f : Nat → Value), m ≤ l.length ∧ r = .int .i64 (kB l k m) ∧ i = .int .i64 m ∧ Below w.heap.size w wr ∧ w1.heap.size < wr.heap.size ∧
     Own wr w1.heap.size 3 l.length f ∧ (∀ j, j < m → f j = .int .i64 (kB l k j % (l[j]?.map fun d => (d.opts.length : Int)).getD 1)) ∧ (∀ j, m ≤ j → f j = .int .i64 0)) (fun _ _ _ i _ => l.length - (intOf i).toNat)
  case atStart => exact ⟨0, _, Nat.zero_le _, rfl, rfl, hb1.alloc hb1.size _, by simp, Own.new _ _ _ _, fun j hj => by omega, fun j hj => rfl⟩
  case round =>
    obtain ⟨m, f, hm', rfl, rfl, hbel, hsz, hown, hf1, hf2⟩ := hrel
    by_cases hlt : m < l.length
    · rcases h4 with rfl | ⟨b, off, rfl, h4⟩
      · simp at hlt
      obtain ⟨a', cap', g0, g1, g2, _⟩ := h4.disp hbel hlt
      have hpos : 0 < l[m].opts.length := by
        rcases Nat.eq_zero_or_pos l[m].opts.length with h | h
        · have := LX l m hlt h; omega
        exact h
      have hb := JU l k h0 m
      have c1 := hown.cell hlt
      rw [hf2 m (Nat.le_refl _)] at c1
      have c2 := hown.frozen m
      go_wp2
      go_roundw
      case rel =>
        refine ⟨m + 1, upd f m (.int .i64 (kB l k m % (l[m].opts.length : Int))), by omega, by rw [Ks l k m hlt], by go_num, (hbel.setCell (by simpa using hb1.size) _).alloc (by simpa using hbel.size) _, by simp; omega, (hown.set _ _).alloc _, ?_, ?_⟩
        · intro j hj
          unfold upd
          split
          · rename_i e; subst e; simp [hlt]
          exact hf1 j (by omega)
        intro j hj
        unfold upd
        rw [if_neg (by omega)]
        exact hf2 j (by omega)
      case measure => simp [intOf]; omega
    go_wp2
    go_ret2
    refine ⟨_, rfl, hown.reads (by simp [Jj]) (by omega) ?_, hbel⟩
    intro j hj
    have hj' : j < l.length := by simpa [Jj] using hj
    rw [hf1 j (by omega)]
    refine ⟨by simp [Jj], ?_⟩
    have hb := JU l k h0 j
    have hk1 := (MA l).2
    have hj1 : (Jj l k)[j] = kB l k j % (l[j].opts.length : Int) := by simp [Jj, hj']
    rw [hj1]
    have := Int.emod_nonneg (kB l k j) (b := (l[j].opts.length : Int))
    rcases Nat.eq_zero_or_pos l[j].opts.length with hz | hz
    · rw [hz]; simp [nv]; omega
    have h5 := Int.emod_nonneg (kB l k j) (b := (l[j].opts.length : Int)) (by omega)
    have h6 := Int.mul_ediv_add_emod (kB l k j) (l[j].opts.length : Int)
    have h7 := Int.mul_nonneg (Int.natCast_nonneg l[j].opts.length) (Int.ediv_nonneg hb.1 (Int.natCast_nonneg l[j].opts.length))
    unfold nv
    generalize kB l k j % (l[j].opts.length : Int) = x at *
    generalize (l[j].opts.length : Int) * (kB l k j / (l[j].opts.length : Int)) = y at *
    omega
def KT:GOpt:=⟨⟨false,ByteArray.empty,ByteArray.empty⟩,0⟩
def zO2:Obj:= .cells #[.bool false,.string ByteArray.empty,.string ByteArray.empty,.int .i64 0,.bool false,.string ByteArray.empty,.string ByteArray.empty,.int .i64 0] 121
def zO3:Obj:= .cells #[.bool false,.string ByteArray.empty,.string ByteArray.empty,.int .i64 0,.bool false,.string ByteArray.empty,.string ByteArray.empty,.int .i64 0,.bool false,.string ByteArray.empty,.string ByteArray.empty,.int .i64 0] 121
theorem Tryz.mkOpt2 (w:World):(Instr.makeSlice 107 (.int .i64 2) (.int .i64 2)).run prog w= .ok (.slice (some ⟨w.heap.size,0,none⟩) 2 2) (w.alloc zO2):=by kernel_rfl
theorem Tryz.mkOpt3 (w:World):(Instr.makeSlice 107 (.int .i64 3) (.int .i64 3)).run prog w= .ok (.slice (some ⟨w.heap.size,0,none⟩) 3 3) (w.alloc zO3):=by kernel_rfl
theorem JB (W:World) (b n:Nat) (arr:Array Value) (E:TypeId) (h:W.heap[b]? =some (.cells arr E)) (hn:n<=1000000)
  (ha:∀j,j<n->arr[j*4]? =some (.bool false)/\arr[j*4+1]? =some (.string ByteArray.empty)/\arr[j*4+2]? =some (.string ByteArray.empty)/\arr[j*4+3]? =some (.int .i64 0)):
  aH 4 LK W (LT W.heap.size) [.slice (some ⟨b,0,none⟩) n n] (List.replicate n KT):=by
 refine ⟨some ⟨b,0,none⟩,n,by simp,by simp,by unfold maxLen;omega,by simp,.inr ⟨b,0,rfl,(Array.getElem?_eq_some_iff.1 h).1,fun j hj=>⟨[Value.bool false,Value.string ByteArray.empty,Value.string ByteArray.empty,Value.int .i64 0],rfl,?_,?_⟩⟩⟩
 ·intro c hc;obtain ⟨a0,a1,a2,a3⟩:=ha j (by simpa using hj);have:c=0∨c=1∨c=2∨c=3:=by omega
  rcases this with rfl|rfl|rfl|rfl<;>simp [World.cell?,h,a0,a1,a2,a3]
 simp only [List.getElem_replicate];exact ⟨rfl,by unfold maxLen KT;simp,by unfold maxLen KT;simp,by unfold nv KT;simp⟩
theorem LY (W:World) (b:Nat) (h:W.heap[b]? =some zO2):aH 4 LK W (LT W.heap.size) [.slice (some ⟨b,0,none⟩) 2 2] (List.replicate 2 KT):=by
 refine JB W b 2 _ _ h (by omega) fun j hj=>?_
 have:j=0∨j=1:=by omega
 rcases this with rfl|rfl<;>exact ⟨rfl,rfl,rfl,rfl⟩
theorem LZ (W:World) (b:Nat) (h:W.heap[b]? =some zO3):aH 4 LK W (LT W.heap.size) [.slice (some ⟨b,0,none⟩) 3 3] (List.replicate 3 KT):=by
 refine JB W b 3 _ _ h (by omega) fun j hj=>?_
 have:j=0∨j=1∨j=2:=by omega
 rcases this with rfl|rfl|rfl<;>exact ⟨rfl,rfl,rfl,rfl⟩
def awl:List GDisp:=[⟨0,0,List.replicate 2 KT⟩,⟨0,0,List.replicate 3 KT⟩]
theorem Jq:cnt awl=6:=by rfl
theorem Li:Jj awl 3=[1,1]:=by rfl
theorem KU (W:World) (b1 b2 b3:Nat) (E:TypeId) (h1:W.heap[b1]? =some zO2) (h2:W.heap[b2]? =some zO3)
  (h3:W.heap[b3]? =some (.cells #[.int .i64 0,.int .i64 0,.slice (some ⟨b1,0,none⟩) 2 2,.int .i64 0,.int .i64 0,.slice (some ⟨b2,0,none⟩) 3 3] E)):
  aH 3 J0 W (LT W.heap.size) [.slice (some ⟨b3,0,none⟩) 2 2] awl:=by
 refine ⟨some ⟨b3,0,none⟩,2,rfl,by simp [awl],by unfold maxLen;omega,by simp,.inr ⟨b3,0,rfl,(Array.getElem?_eq_some_iff.1 h3).1,fun j hj=>?_⟩⟩;have hj2:j=0∨j=1:=by simp [awl] at hj;omega
 rcases hj2 with rfl|rfl
 ·refine ⟨[.int .i64 0,.int .i64 0,.slice (some ⟨b1,0,none⟩) 2 2],rfl,?_,_,rfl,by unfold nv;simp [awl],by unfold nv;simp [awl],LY _ _ h1⟩;intro c hc;have:c=0∨c=1∨c=2:=by omega
  rcases this with rfl|rfl|rfl<;>simp [World.cell?,h3]
 refine ⟨[.int .i64 0,.int .i64 0,.slice (some ⟨b2,0,none⟩) 3 3],rfl,?_,_,rfl,by unfold nv;simp [awl],by unfold nv;simp [awl],LZ _ _ h2⟩;intro c hc;have:c=0∨c=1∨c=2:=by omega
 rcases this with rfl|rfl|rfl<;>simp [World.cell?,h3]
theorem MC {w:World} {u:Value} {l:List Int} (h:aH 1 IV w (LT w.heap.size) [u] l) (hne:l≠[]):
  ∃b off cap,u= .slice (some ⟨b,off,none⟩) l.length cap/\∀j (hj:j<l.length),w.cell? ⟨b,off+j,none⟩=some (.int .i64 l[j]):=by
 obtain ⟨a,cap,h1,h2,h3,h4,h5⟩:=h;simp only [List.cons.injEq,and_true] at h1;subst h1;rcases h5 with h5|⟨b,off,rfl,h5⟩
 ·exact absurd h5 hne
 exact ⟨b,off,cap,rfl,fun j hj=>(h5.i64 hj).1⟩
theorem MD (w:World) (a b c:Obj):(((w.alloc a).alloc b).alloc c).drew.heap[w.heap.size]? =some a:=by
 show (((w.heap.push a).push b).push c)[w.heap.size]? =some a;rw [Array.getElem?_push,if_neg (by simp;omega),Array.getElem?_push,if_neg (by simp),Array.getElem?_push,if_pos rfl]
theorem ME (w:World) (a b c:Obj):(((w.alloc a).alloc b).alloc c).drew.heap[w.heap.size+1]? =some b:=by
 show (((w.heap.push a).push b).push c)[w.heap.size+1]? =some b;rw [Array.getElem?_push,if_neg (by simp),Array.getElem?_push,if_pos (by simp)]
theorem MF (w:World) (a b c:Obj):(((w.alloc a).alloc b).alloc c).drew.heap[w.heap.size+1+1]? =some c:=by
 show (((w.heap.push a).push b).push c)[w.heap.size+1+1]? =some c;rw [Array.getElem?_push,if_pos (by simp)]
theorem NG (w:World) (a b c:Obj):Below w.heap.size w (((w.alloc a).alloc b).alloc c).drew:=
 ((((Below.refl _ _).alloc (Nat.le_refl _) _).alloc (by simp) _).alloc (by simp;omega) _).drew
abbrev AwR (W:World) (v:Value):Prop:=aH 3 J0 W (LT W.heap.size) [v] awl
theorem aw1 (w:World):AwR (((w.alloc zO2).alloc zO3).alloc (.cells #[.int .i64 0,.int .i64 0,.slice (some ⟨w.heap.size,0,none⟩) 2 2,.int .i64 0,.int .i64 0,.slice (some ⟨w.heap.size+1,0,none⟩) 3 3] 109)).drew (.slice (some ⟨w.heap.size+1+1,0,none⟩) 2 2):=
 KU _ _ _ _ 109 (MD w _ _ _) (ME w _ _ _) (MF w _ _ _)
theorem aw2 (w:World):AwR (((w.alloc zO3).alloc zO2).alloc (.cells #[.int .i64 0,.int .i64 0,.slice (some ⟨w.heap.size+1,0,none⟩) 2 2,.int .i64 0,.int .i64 0,.slice (some ⟨w.heap.size,0,none⟩) 3 3] 109)).drew (.slice (some ⟨w.heap.size+1+1,0,none⟩) 2 2):=
 KU _ _ _ _ 109 (ME w _ _ _) (MD w _ _ _) (MF w _ _ _)
theorem L0 (w:World):
  Calls prog 18 #[] w fun e w'=>e= .returned (.bool true)/\Below w.heap.size w w':=by
 have m2:=Tryz.mkOpt2;have m3:=Tryz.mkOpt3;go_enter func18,ntmps18
 go_wp2
 go_region
 all_goals
  go_wp2_with fail
  clear m2 m3;first
   |(have hR:=aw1 w;refine (JV _ awl 3 _ (by omega) (by rw [Jq];omega) (by rw [Jq];omega) (by decide) hR).mono ?_)
   |(have hR:=aw2 w;refine (JV _ awl 3 _ (by omega) (by rw [Jq];omega) (by rw [Jq];omega) (by decide) hR).mono ?_)
  rintro e w1 ⟨u,rfl,hu,hb1⟩;rw [Li] at hu;go_wp2_with fail
  refine (J9 _ awl _ ((aX Jz).below hR hb1 hb1.size)).mono ?_;rintro e w2 ⟨rfl,hb2⟩;rw [Jq];obtain ⟨b,off,cap,rfl,hc⟩:=MC ((aX Lb).below hu hb2 hb2.size) (by simp);have c0:=hc 0 (by simp);have c1:=hc 1 (by simp);simp at c0 c1;clear hc hu hR;go_wp2
  go_ret
  exact ⟨rfl,(NG w _ _ _).trans ((hb1.mono (by simp;omega)).trans (hb2.mono (Nat.le_trans (by simp;omega) hb1.size)))⟩
end Go.Proofs.YtokmkopihhnggaaGreatDoor
