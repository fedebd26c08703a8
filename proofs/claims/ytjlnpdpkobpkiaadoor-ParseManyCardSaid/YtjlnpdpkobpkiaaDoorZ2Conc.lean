import Derived.Test.YtjlnpdpkobpkiaaDoorProg
import Derived.Test.YtjlnpdpkobpkiaaDoorZ2Opens
import Derived.Test.YtjlnpdpkobpkiaaDoorZ2Lib
import Derived.Test.YtjlnpdpkobpkiaaDoorZ2W1
set_option linter.unusedVariables false
set_option linter.unusedSimpArgs false
namespace Go.Proofs.YtjlnpdpkobpkiaaDoorPSP
open Go.RowKit Go.Extern.Stop Go.Stop Go.Extern Go.Proofs.YtjlnpdpkobpkiaaDoorW.PrintWords Go.Proofs.YtjlnpdpkobpkiaaDoor
set_option maxHeartbeats 4000000 in
set_option maxRecDepth 100000 in
theorem Grow_nil (n:Nat) (w:World) (hn:n≤1000000):Calls Tryd.prog 54 #[.slice none 0 0,.int .i64 (n:Int)] w (fun e w'=>∃v,e= .returned v∧Kd.R Kd.string 9 w' w.heap.size (fun _=>True) v []∧Below w.heap.size w w'):=by
  by_cases h0:n=0
  · subst h0
    go_enter Tryd.func54,Tryd.ntmps54
    go_wp2
    go_ret
    exact ⟨_,rfl,Kd.R_nil _ _ _ _ _,Below.refl _ _⟩
  · have h1 : (0 : Int) < n := by omega
    have h2:¬(n:Int)<0:=by omega
    go_enter Tryd.func54,Tryd.ntmps54
    go_wp2_with (at_builtin;go_must (refine Kd.R_append_zeros Kd.string (w0:=w) w.heap.size rfl _ _ 45 3 9 (.string ⟨#[]⟩) 16 rfl Tryd.underlying45 Tryd.underlying3 (by kernel_rfl) rfl (by decide) (by decide) (.slice none 0 0) [] (⟨#[]⟩:ByteArray) (n:Int) (fun _=>True) rfl rfl rfl (fun _ _=>trivial) (Kd.R_nil _ _ _ _ _) (by omega) (Below.refl _ _) (Nat.le_refl _) (by simp;omega) ?_);intro v1 w1 hR hB _ _;obtain ⟨A1,c1,rfl⟩:=Kd.R_slice hR;have HR:=hid hR;have HB:=hid hB;clear hR hB)
    go_ret
    exact ⟨_,rfl,by simpa using Kd.R_take (m:=0) HR.out (Nat.zero_le _),HB.out⟩
theorem Kd.C_addr {α:Type} {d:Kd α} {w:World} {A:Option Addr} {n:Nat} {xs:List α} (h:Kd.C d w A n xs) (hn:0<n) (hz:0<d.sz):
    ∃b off,A=some ⟨b,off,none⟩∧∀j p,xs[j]? =some p→∃c,c.length=d.sz∧d.K w p c∧∀i u,c[i]? =some u→w.cell? ⟨b,off+(j*d.sz+i),none⟩=some u:=
  RowOf.addr (R:=d.K w) (sz:=d.sz) h hn hz
def slices_Concat_string_string.f (l:List (List ByteArray)):Option (List ByteArray):=if l.length≤1000∧l.flatten.length≤1000000 then some l.flatten else none
theorem flat_take {α:Type} (l:List (List α)) (i:Nat) (h:i<l.length):(l.take (i+1)).flatten=(l.take i).flatten++l[i]:=by
  rw [List.take_succ_eq_append_getElem h,List.flatten_append]
  simp
theorem flat_take_le {α:Type} (l:List (List α)) (i:Nat):(l.take i).flatten.length≤l.flatten.length:=by
  have:=congrArg (fun z=>z.flatten.length) (List.take_append_drop i l)
  simp only [List.flatten_append,List.length_append] at this
  omega
set_option maxHeartbeats 4000000 in
set_option maxRecDepth 100000 in
theorem slices_Concat_string_string.calls (A:Option Addr) (c:Nat) (l:List (List ByteArray)) (r:List ByteArray) (w:World) (hr:Kd.C (Kd.slice 9 Kd.string) w A l.length l) (hc:l.length≤c) (h:slices_Concat_string_string.f l=some r):
    Calls Tryd.prog 34 #[.slice A l.length c] w fun e w'=>∃v,e= .returned v∧Kd.R Kd.string 9 w' w.heap.size (fun _=>True) v r∧Below w.heap.size w w':=by
  unfold slices_Concat_string_string.f at h
  split at h
  case isFalse=>cases h
  case isTrue hk=>
  obtain ⟨hk1,hk2⟩:=hk
  obtain rfl:=Option.some.inj h
  clear h
  have HRD:=hid hr
  have HC:=hid hc
  clear hr hc
  go_enter Tryd.func34,Tryd.ntmps34
  go_wp2_with fail
  go_loopg [3,11] l.length (fun g t3 t11 wr=>∃i:Nat,t3= .int .i64 (((l.take i).flatten.length:Nat):Int)∧t11= .int .i64 (i:Int)∧i≤l.length∧l.length-i≤g∧wr=w)
  case atStart=>exact ⟨0,rfl,rfl,by omega,by omega,rfl⟩
  case round=>
    obtain ⟨i,rfl,rfl,hi,hg,hw⟩:=hrel
    subst wr
    have hle:=flat_take_le l i
    by_cases hlt:i<l.length
    · have hlt' : (i : Int) < (l.length : Int) := by omega
      obtain ⟨b,off,rfl,hcl⟩:=Kd.C_addr HRD.out (by omega) (by decide)
      obtain ⟨cs,_,hK,hcell⟩:=hcl i _ (List.getElem?_eq_getElem hlt)
      obtain ⟨A',c',rfl,hl',hr'⟩:=hK
      have k0:=hcell 0 _ rfl
      have e1:(Kd.slice 9 Kd.string).sz=1:=rfl
      rw [e1,Nat.mul_one] at k0
      have k1:w.cell? ⟨b,off+i,none⟩=some (.slice A' l[i].length c'):=k0
      have hft:=flat_take l i hlt
      have hfl:=congrArg List.length hft
      rw [List.length_append] at hfl
      have hle2:=flat_take_le l (i+1)
      have hsz:((l.take i).flatten.length:Int)+(l[i].length:Int)=((l.take (i+1)).flatten.length:Nat):=by omega
      have hww:wrap64 (((l.take i).flatten.length:Int)+(l[i].length:Int))=(((l.take (i+1)).flatten.length:Nat):Int):=by rw [hsz];unfold wrap64;omega
      clear hsz hfl hft hle hle2
      have hnn:¬(((l.take (i+1)).flatten.length:Nat):Int)<0:=by omega
      generalize (l.take i).flatten.length=p at *
      obtain ⟨q,hq⟩:∃q,q=(l.take (i+1)).flatten.length:=⟨_,rfl⟩
      rw [←hq] at hww hnn
      have HQ:=hid hq
      clear hq
      generalize l[i].length=m at *
      clear hcell hcl hr' k0
      go_wp2
      go_roundg (l.length-(i+1))
      case measure=>omega
      case rel=>exact ⟨i+1,by rw [HQ.out],rfl,by omega,Nat.le_refl _,rfl⟩
    · have hie : i = l.length := by omega
      subst hie
      rw [List.take_length]
      clear hle
      have HK1:=hid hk1
      have HK2:=hid hk2
      obtain ⟨N,hN⟩:∃N,N=l.flatten.length:=⟨_,rfl⟩
      rw [←hN]
      have HN:=hid hN
      clear hk1 hk2 hN hlt hi hg
      have Q0:Hid (Kd.R Kd.string 9 w w.heap.size (fun _=>True) (.slice none 0 0) []):=hid (Kd.R_nil _ _ _ _ _)
      go_wp2_with fail
      refine (Grow_nil N w (by rw [HN.out];exact HK2.out)).mono ?_
      rintro e w1 ⟨v0,rfl,hR,hB⟩
      have R0:=hid hR
      have B0:=hid hB
      clear hR hB
      go_wp2_with fail
      go_loopg [6,27] l.length (fun g t6 t27 wr=>∃(j:Nat),t27= .int .i64 (j:Int)∧j≤l.length∧l.length-j≤g∧Hid (Kd.R Kd.string 9 wr w.heap.size (fun _=>True) t6 (l.take j).flatten)∧Hid (Below w.heap.size w wr))
      case atStart=>exact ⟨0,rfl,by omega,by omega,R0,B0⟩
      case round=>
        clear R0 B0 Q0
        obtain ⟨j,rfl,hj,hgj,HR,HB⟩:=hrel
        obtain ⟨wp,rfl⟩:∃x:World,x=wr:=⟨_,rfl⟩
        obtain ⟨A1,c1,rfl⟩:=Kd.R_slice HR.out
        by_cases hlt:j<l.length
        · have hlt' : (j : Int) < (l.length : Int) := by omega
          have hk1:=HK1.out
          obtain ⟨b,off,rfl,hcl⟩:=Kd.C_addr HRD.out (by omega) (by decide)
          obtain ⟨cs,_,hK,hcell⟩:=hcl j _ (List.getElem?_eq_getElem hlt)
          obtain ⟨A',c',rfl,hl',hr'⟩:=hK
          have k0:=hcell 0 _ rfl
          have e1:(Kd.slice 9 Kd.string).sz=1:=rfl
          rw [e1,Nat.mul_one] at k0
          have k1:wp.cell? ⟨b,off+j,none⟩=some (.slice A' l[j].length c'):=(HB.out.cell (World.block_lt_of_cell? w _ k0)).trans k0
          have HA:=hid (Kd.C_below hr' HB.out)
          have HFT:=hid (flat_take l j hlt)
          have hle:=flat_take_le l (j+1)
          rw [HFT.out,List.length_append] at hle
          obtain ⟨x,hx⟩:∃x,x=l[j]:=⟨_,rfl⟩
          rw [←hx] at k1 HA HFT hle
          obtain ⟨L2,hL2⟩:∃L2,L2=(l.take (j+1)).flatten:=⟨_,rfl⟩
          rw [←hL2] at HFT
          have HL2:=hid hL2
          clear hL2
          have HS:=hid (HB.out.size)
          have hk2:=HK2.out
          have HLE:Hid (((l.take j).flatten.length+x.length)*16≤140737488355328):=hid (by omega)
          clear hk2 hle
          clear hcell hcl hr' k0 hx hl'
          go_wp2_with (at_builtin;go_must (refine Kd.R_append_rows Kd.string (w0:=w) w.heap.size rfl _ _ 45 9 (.string ⟨#[]⟩) 16 rfl Tryd.underlying45 (by kernel_rfl) rfl (by decide) (by decide) _ _ x _ _ _ (fun _=>True) (fun _=>False) rfl rfl HR.out HA.out (fun _ _ h=>h) (fun _ h=>h.elim) (fun _ _=>trivial) HB.out HS.out HLE.out ?_);intro v1 w1 hR hB _ _;rw [←HFT.out] at hR;obtain ⟨A2,c2,rfl⟩:=Kd.R_slice hR;have HR2:=hid hR;have HB2:=hid hB;clear hR hB)
          go_roundg (l.length-(j+1))
          case measure=>omega
          case rel=>exact ⟨j+1,rfl,by omega,Nat.le_refl _,by rw [←HL2.out];exact HR2,HB2⟩
        · have hje : j = l.length := by omega
          subst hje
          have hR:=HR.out
          rw [List.take_length] at hR
          rw [List.take_length]
          have HR2:=hid hR
          clear hR HR
          go_wp2
          go_ret
          exact ⟨_,rfl,HR2.out,HB.out⟩
end Go.Proofs.YtjlnpdpkobpkiaaDoorPSP
