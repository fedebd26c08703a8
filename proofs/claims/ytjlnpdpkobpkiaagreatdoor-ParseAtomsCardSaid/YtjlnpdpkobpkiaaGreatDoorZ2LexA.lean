import Derived.Test.YtjlnpdpkobpkiaaGreatDoorZ2Lib
import Derived.Test.YtjlnpdpkobpkiaaGreatDoorRows
import Derived.LaidEql
import Derived.Stop.Asserts
import Derived.RowKitTokens
set_option linter.unusedVariables false
set_option linter.unusedSimpArgs false
namespace Go.Proofs.YtjlnpdpkobpkiaaGreatDoor
open Go.RowKit Go.Extern.Stop Go.Stop Go.Extern
def FaultAt (w:World) (b:Nat) (tag at_:Int) (what:ByteArray) (err:Value):Prop:=w.heap[b]? =some (.cells #[.int .i64 tag,.int .i64 at_,.string what,err] 120 (0,0))
abbrev faultV (b:Nat):Value:= .iface 116 (.pointer (some ⟨b,0,none⟩))
theorem FaultAt.below {w w':World} {b:Nat} {tag at_:Int} {what:ByteArray} {err:Value} (h:FaultAt w b tag at_ what err) (hb:Below w.heap.size w w'):FaultAt w' b tag at_ what err:=(hb.block b (blk_lt h)).trans h
def RetB (w:World) (v:Value) (e:Ending) (w':World):Prop:=e= .returned v∧Below w.heap.size w w'
def NewPost (w:World) (tag at_:Int) (what:ByteArray) (e:Ending) (w':World):Prop:=∃b,e= .returned (faultV b)∧FaultAt w' b tag at_ what .nilIface∧w.heap.size≤b∧Below w.heap.size w w'
theorem FNew_any (tag at_:Int) (what:ByteArray) (w:World):
    Calls Tryz.prog 40 #[.int .i64 tag,.int .i64 at_,.string what] w (NewPost w tag at_ what):=by
  go_enter Tryz.func40,Tryz.ntmps40
  go_wp2
  go_ret
  exact ⟨w.heap.size,rfl,heap_alloc_new w _,Nat.le_refl _,(Below.refl _ _).alloc (Nat.le_refl _) _⟩
end Go.Proofs.YtjlnpdpkobpkiaaGreatDoor
set_option linter.unusedVariables false
set_option linter.unusedSimpArgs false
namespace Go.Proofs.YtjlnpdpkobpkiaaGreatDoor
open Go.RowKit
def RetS (w:World) (v:Value) (e:Ending) (w':World):Prop:=e= .returned v∧w=w'
theorem between_true {b lo hi:Int} {w:World} (h1:lo≤b) (h2:b≤hi):Calls Tryz.prog 89 #[.int .u8 b,.int .u8 lo,.int .u8 hi] w (RetS w (.bool true)):=by
  go_enter Tryz.func89,Tryz.ntmps89
  go_wp2
  go_ret
  exact ⟨rfl,rfl⟩
theorem between_false {b lo hi:Int} {w:World} (h:b<lo∨hi<b):Calls Tryz.prog 89 #[.int .u8 b,.int .u8 lo,.int .u8 hi] w (RetS w (.bool false)):=by
  by_cases h1:lo≤b
  · have h2 : ¬ b ≤ hi := by omega
    clear h
    go_enter Tryz.func89,Tryz.ntmps89
    go_wp2
    go_ret
    exact ⟨rfl,rfl⟩
  · clear h
    go_enter Tryz.func89,Tryz.ntmps89
    go_wp2
    go_ret
    exact ⟨rfl,rfl⟩
def innerB (c:UInt8):Bool:=(decide (97≤c.toNat) && decide (c.toNat≤122))||((decide (65≤c.toNat) && decide (c.toNat≤90))||((decide (48≤c.toNat) && decide (c.toNat≤57))||decide (c.toNat=95)))
theorem inner_any (c:UInt8) (w:World):Calls Tryz.prog 112 #[.int .u8 (c.toNat:Int)] w (RetS w (.bool (innerB c))):=by
  have hc:=c.toNat_lt
  have Hi:Hid (innerB c=((decide (97≤c.toNat) && decide (c.toNat≤122))||((decide (65≤c.toNat) && decide (c.toNat≤90))||((decide (48≤c.toNat) && decide (c.toNat≤57))||decide (c.toNat=95))))):=rfl
  obtain ⟨n,hn⟩:∃n,n=c.toNat:=⟨_,rfl⟩
  obtain ⟨b,hb⟩:∃b,b=innerB c:=⟨_,rfl⟩
  rw [←hn] at hc Hi ⊢
  rw [←hb] at Hi ⊢
  clear hn hb
  by_cases h1:97≤n∧n≤122
  · have e : b = true := by rw [Hi.out]; simp [h1]
    subst e
    obtain ⟨h1,h2⟩:=h1
    clear Hi
    go_enter Tryz.func112,Tryz.ntmps112
    go_wp2_with fail
    refine (between_true (by omega) (by omega)).mono ?_
    rintro e w' ⟨rfl,rfl⟩
    go_wp2
    go_ret
    exact ⟨rfl,rfl⟩
  · by_cases h2 : 65 ≤ n ∧ n ≤ 90
    · have e : b = true := by rw [Hi.out]; simp [h2]
      subst e
      obtain ⟨h2,h3⟩:=h2
      clear Hi h1
      go_enter Tryz.func112,Tryz.ntmps112
      go_wp2_with fail
      refine (between_false (by omega)).mono ?_
      rintro e w' ⟨rfl,rfl⟩
      go_wp2_with fail
      refine (between_true (by omega) (by omega)).mono ?_
      rintro e w' ⟨rfl,rfl⟩
      go_wp2
      go_ret
      exact ⟨rfl,rfl⟩
    · by_cases h3 : 48 ≤ n ∧ n ≤ 57
      · have e : b = true := by rw [Hi.out]; simp [h3]
        subst e
        obtain ⟨h3,h4⟩:=h3
        clear Hi h1 h2
        go_enter Tryz.func112,Tryz.ntmps112
        go_wp2_with fail
        refine (between_false (by omega)).mono ?_
        rintro e w' ⟨rfl,rfl⟩
        go_wp2_with fail
        refine (between_false (by omega)).mono ?_
        rintro e w' ⟨rfl,rfl⟩
        go_wp2_with fail
        refine (between_true (by omega) (by omega)).mono ?_
        rintro e w' ⟨rfl,rfl⟩
        go_wp2
        go_ret
        exact ⟨rfl,rfl⟩
      · have f1 : (n : Int) < 97 ∨ 122 < (n : Int) := by omega
        have f2:(n:Int)<65∨90<(n:Int):=by omega
        have f3:(n:Int)<48∨57<(n:Int):=by omega
        have F1:=hid f1
        have F2:=hid f2
        have F3:=hid f3
        by_cases h4:n=95
        · have e : b = true := by rw [Hi.out]; simp [h4]
          subst e
          subst h4
          clear Hi h1 h2 h3 f1 f2 f3
          go_enter Tryz.func112,Tryz.ntmps112
          go_wp2_with fail
          refine (between_false F1.out).mono ?_
          rintro e w' ⟨rfl,rfl⟩
          go_wp2_with fail
          refine (between_false F2.out).mono ?_
          rintro e w' ⟨rfl,rfl⟩
          go_wp2_with fail
          refine (between_false F3.out).mono ?_
          rintro e w' ⟨rfl,rfl⟩
          go_wp2
          go_ret
          exact ⟨rfl,rfl⟩
        · have e : b = false := by rw [Hi.out]; simp [h4]; omega
          subst e
          have h5:((n:Int)==95)=false:=by simpa using (show ¬(n:Int)=95 by omega)
          clear Hi h1 h2 h3 f1 f2 f3 h4
          go_enter Tryz.func112,Tryz.ntmps112
          go_wp2_with fail
          refine (between_false F1.out).mono ?_
          rintro e w' ⟨rfl,rfl⟩
          go_wp2_with fail
          refine (between_false F2.out).mono ?_
          rintro e w' ⟨rfl,rfl⟩
          go_wp2_with fail
          refine (between_false F3.out).mono ?_
          rintro e w' ⟨rfl,rfl⟩
          go_wp2
          go_ret
          exact ⟨rfl,rfl⟩
def RdrAt (w:World) (b:Nat) (s:ByteArray) (k:Nat):Prop:=w.heap[b]? =some (.cells #[.string s,.int .i64 (k:Int)] 143 (0,0))
theorem RdrAt.cells {w:World} {b k:Nat} {s:ByteArray} (h:RdrAt w b s k):w.cell? ⟨b,0,none⟩=some (.string s)∧w.cell? ⟨b,1,none⟩=some (.int .i64 (k:Int))∧w.frozen? ⟨b,1,none⟩=false:=
  ⟨by rw [cell_blk h];rfl,by rw [cell_blk h];rfl,frozen_blk h 1⟩
theorem RdrAt.set {w:World} {b k:Nat} {s:ByteArray} (h:RdrAt w b s k) (k':Nat):RdrAt (w.setCell ⟨b,1,none⟩ (.int .i64 (k':Int))) b s k':=by
  have:=blk_set (o:=1) h (.int .i64 (k':Int))
  simpa [RdrAt] using this
theorem RdrAt.keep {F:Nat→Prop} {w w':World} {b k:Nat} {s:ByteArray} (h:RdrAt w b s k) (hf:Fr F w w') (hb:¬F b):RdrAt w' b s k:=(hf.block b (blk_lt h) hb).trans h
theorem RdrAt.drewN {w:World} {b k:Nat} {s:ByteArray} (h:RdrAt w b s k) (n:Nat):RdrAt (w.drewN n) b s k:=h
def blankB (c:UInt8):Bool:=c==32||c==9||c==13||c==10
def skip:Bool→List UInt8→List UInt8
  |_,[]=>[]
  |true,c::t=>if c==10 then skip false t else skip true t
  |false,c::t=>if c==35 then skip true t else if blankB c then skip false t else c::t
theorem drop_at {s:ByteArray} {k:Nat} (h:k<s.size):s.data.toList.drop k=s[k]::s.data.toList.drop (k+1):=by
  rw [List.drop_eq_getElem_cons (by simpa using h)]
  rfl
def BlanksPost (w:World) (b:Nat) (s:ByteArray) (l:List UInt8) (e:Ending) (w':World):Prop:=
  ∃k,e= .returned (.tuple #[])∧k≤s.size∧s.data.toList.drop k=skip false l∧RdrAt w' b s k∧Fr (fun i=>i=b) w w'
set_option maxHeartbeats 2000000 in
theorem blanks_any {w:World} {b k:Nat} {s:ByteArray} (h:RdrAt w b s k) (hk:k≤s.size) (hs:s.size≤1073741824):
    Calls Tryz.prog 88 #[.pointer (some ⟨b,0,none⟩)] w (BlanksPost w b s (s.data.toList.drop k)):=by
  go_enter Tryz.func88,Tryz.ntmps88
  go_wp2_with fail
  go_loopg [2] s.size (fun g _ wr=>∃j:Nat,j≤s.size∧s.size-j≤g∧Hid (RdrAt wr b s j∧skip false (s.data.toList.drop j)=skip false (s.data.toList.drop k)∧Fr (fun i=>i=b) w wr))
  case atStart=>exact ⟨k,hk,by omega,hid ⟨h,rfl,Fr.refl _ _⟩⟩
  case round=>
    obtain ⟨j,hj,hg,H⟩:=hrel
    obtain ⟨wo,rfl⟩:∃x:World,x=wr:=⟨_,rfl⟩
    obtain ⟨c0,c1,f1⟩:=H.out.1.cells
    by_cases hlt:j<s.size
    · have hd := drop_at hlt
      obtain ⟨c,hc⟩:∃c,c=s[j]:=⟨_,rfl⟩
      rw [←hc] at hd
      have hcn:=c.toNat_lt
      have Hd:=hid hd
      have Hc:=hid hc
      by_cases h35:c=35
      · have e35 : ((c.toNat : Int) == 35) = true := by rw [h35]; rfl
        rw [hc] at e35
        have H35:=hid h35
        clear hd hc h35
        go_wp2_with fail
        go_quiet (fail)
        go_wp2_with fail
        go_quiet (fail)
        go_wp2_with fail
        go_loopg [23] s.size (fun g _ wr=>∃i:Nat,i≤s.size∧s.size-i≤g∧j≤i∧Hid (RdrAt wr b s i∧skip true (s.data.toList.drop i)=skip false (s.data.toList.drop k)∧Fr (fun i=>i=b) w wr))
        case atStart=>
          refine ⟨j,hj,by omega,Nat.le_refl _,hid ⟨(H.out.1.drewN _),?_,H.out.2.2.drewN _⟩⟩
          rw [←H.out.2.1,Hd.out,H35.out]
          rfl
        case round=>
          obtain ⟨i,hi,hgi,hji,J⟩:=hrel
          obtain ⟨wi,rfl⟩:∃x:World,x=wr:=⟨_,rfl⟩
          obtain ⟨d0,d1,f1⟩:=J.out.1.cells
          by_cases hlti:i<s.size
          · by_cases h10 : s[i] = 10
            · have e10 : ((s[i].toNat : Int) != 10) = false := by rw [h10]; rfl
              have H10:=hid h10
              have hne:j<i:=by
                rcases Nat.lt_or_eq_of_le hji with h|h
                · exact h
                · subst h
                  rw [←Hc.out,H35.out] at h10
                  exact absurd h10 (by decide)
              clear h10
              go_wp2_with fail
              go_quiet (fail)
              go_wp2
              go_roundg (s.size-i)
              case measure=>omega
              case rel=>
                refine ⟨i,hi,Nat.le_refl _,hid ⟨(J.out.1.drewN _),?_,J.out.2.2.drewN _⟩⟩
                rw [←J.out.2.1,drop_at hlti,H10.out]
                rfl
            · have e10:((s[i].toNat:Int) !=10)=true:=by
                have:¬s[i].toNat=10:=fun h=>h10 (UInt8.toNat_inj.1 h)
                simpa using (show ¬(s[i].toNat:Int)=10 by omega)
              have H10:=hid h10
              clear h10
              go_wp2_with fail
              go_quiet (fail)
              go_wp2
              go_roundg (s.size-(i+1))
              case measure=>omega
              case rel=>
                refine ⟨i+1,by omega,Nat.le_refl _,by omega,hid ⟨(J.out.1.drewN _).set (i+1),?_,(J.out.2.2.drewN _).trans (Fr.setCell _ _ _) (fun _ _ h=>h)⟩⟩
                rw [←J.out.2.1,drop_at hlti,skip,if_neg (by simpa using H10.out)]
          · have hne : j < i := by omega
            go_wp2_with fail
            go_quiet (fail)
            go_wp2
            go_roundg (s.size-i)
            case measure=>omega
            case rel=>
              refine ⟨i,hi,Nat.le_refl _,hid ⟨(J.out.1.drewN _),?_,J.out.2.2.drewN _⟩⟩
              rw [←J.out.2.1,List.drop_eq_nil_of_le (by rw [Array.length_toList];exact Nat.le_of_not_lt hlti)]
              rfl
      · have e35:((c.toNat:Int)==35)=false:=by
          have:¬c.toNat=35:=fun h=>h35 (UInt8.toNat_inj.1 h)
          simpa using (show ¬(c.toNat:Int)=35 by omega)
        have H35:=hid h35
        by_cases hbl:blankB c=true
        · have HE:Hid (skip false (s.data.toList.drop (j+1))=skip false (s.data.toList.drop k)):=by
            show _=_
            rw [←H.out.2.1,Hd.out,skip,if_neg (by simpa using h35),if_pos hbl]
          have hb4:c=32∨c=9∨c=13∨c=10:=by
            unfold blankB at hbl
            simp only [Bool.or_eq_true,beq_iff_eq] at hbl
            rcases hbl with ((h|h)|h)|h
            · exact .inl h
            · exact .inr (.inl h)
            · exact .inr (.inr (.inl h))
            · exact .inr (.inr (.inr h))
          have hway:((c.toNat:Int)==32)=true∨(((c.toNat:Int)==32)=false∧((c.toNat:Int)==9)=true)∨(((c.toNat:Int)==32)=false∧((c.toNat:Int)==9)=false∧((c.toNat:Int)==13)=true) ∨
              (((c.toNat:Int)==32)=false∧((c.toNat:Int)==9)=false∧((c.toNat:Int)==13)=false∧((c.toNat:Int)==10)=true):=by
            rcases hb4 with h|h|h|h <;>subst h <;>simp
          rw [hc] at e35 hway
          clear hd hc h35 hbl hb4
          rcases hway with e1|⟨e1,e2⟩|⟨e1,e2,e3⟩|⟨e1,e2,e3,e4⟩
          all_goals
            go_wp2_with fail
            go_quiet (fail)
            go_wp2_with fail
            go_quiet (fail)
            go_wp2
            go_roundg (s.size-(j+1))
            case measure=>omega
            case rel=>exact ⟨j+1,by omega,Nat.le_refl _,hid ⟨(H.out.1.drewN _).set (j+1),HE.out,(H.out.2.2.drewN _).trans (Fr.setCell _ _ _) (fun _ _ h=>h)⟩⟩
        · have hn:((c.toNat:Int)==32)=false∧((c.toNat:Int)==9)=false∧((c.toNat:Int)==13)=false∧((c.toNat:Int)==10)=false:=by
            unfold blankB at hbl
            simp only [Bool.or_eq_true,beq_iff_eq,not_or] at hbl
            obtain ⟨⟨⟨h1,h2⟩,h3⟩,h4⟩:=hbl
            have g1:¬c.toNat=32:=fun h=>h1 (UInt8.toNat_inj.1 h)
            have g2:¬c.toNat=9:=fun h=>h2 (UInt8.toNat_inj.1 h)
            have g3:¬c.toNat=13:=fun h=>h3 (UInt8.toNat_inj.1 h)
            have g4:¬c.toNat=10:=fun h=>h4 (UInt8.toNat_inj.1 h)
            refine ⟨?_,?_,?_,?_⟩ <;>simp <;>omega
          have HE:Hid (s.data.toList.drop j=skip false (s.data.toList.drop k)):=by
            show _=_
            rw [←H.out.2.1,Hd.out,skip,if_neg (by simpa using h35),if_neg hbl]
          obtain ⟨e1,e2,e3,e4⟩:=hn
          rw [hc] at e35 e1 e2 e3 e4
          clear hd hc h35 hbl
          go_wp2_with fail
          go_quiet (fail)
          go_wp2_with fail
          go_quiet (fail)
          go_wp2
          go_end0
          exact ⟨j,rfl,hj,HE.out,H.out.1.drewN _,H.out.2.2.drewN _⟩
    · go_wp2_with fail
      go_quiet (fail)
      go_wp2
      go_end0
      have e0:s.data.toList.drop j=[]:=List.drop_eq_nil_of_le (by rw [Array.length_toList];exact Nat.le_of_not_lt hlt)
      exact ⟨j,rfl,hj,by rw [←H.out.2.1,e0];rfl,H.out.1,H.out.2.2.drewN _⟩
end Go.Proofs.YtjlnpdpkobpkiaaGreatDoor
