import Derived.Test.YtjlnpdpkobpkiaaGreatDoorZ2LexJ
import Derived.Test.YtjlnpdpkobpkiaaGreatDoorZ2Build
set_option linter.unusedVariables false
set_option linter.unusedSimpArgs false
namespace Go.Proofs.YtjlnpdpkobpkiaaGreatDoor
open Go.RowKit
def escL:List UInt8→List UInt8
  |[]=>[]
  |c::t=>(if c=10 then [92,110] else if c=34 then [92,34] else if c=92 then [92,92] else [c])++escL t
theorem escL_append (l m:List UInt8):escL (l++m)=escL l++escL m:=by
  induction l with
  |nil=>rfl
  |cons c t ih=>simp [escL,ih]
theorem escL_len (l:List UInt8):(escL l).length≤2*l.length:=by
  induction l with
  |nil=>exact Nat.le_refl _
  |cons c t ih=>
    have h:∀c:UInt8,(if c=10 then [92,110] else if c=34 then [92,34] else if c=92 then [92,92] else [c]).length≤2:=by
      intro c
      split
      · simp
      · split
        · simp
        · split <;>simp
    have:=h c
    rw [escL,List.length_append,List.length_cons]
    omega
def quoteL (l:List UInt8):List UInt8:=34::escL l++[34]
def fineB (c:UInt8):Bool:=decide (32≤c.toNat)||c==10
theorem text_esc (p:Nat) (l m:List UInt8):∀out,out.length+l.length≤40→l.all fineB=true→textS p out (escL l++34::m)= .tok 4 (out++l) 0 p m:=by
  induction l with
  |nil=>
    intro out h _
    rw [escL,List.nil_append,textS_q _ _ rfl,if_neg (by simp at h;omega),List.append_nil]
  |cons c t ih=>
    intro out h hf
    rw [List.all_cons,Bool.and_eq_true] at hf
    have hlen:∀x,(out++[x]).length+t.length≤40:=by intro x;simp at h ⊢;omega
    have happ:out++c::t=(out++[c])++t:=by simp
    rw [happ]
    by_cases h10:c=10
    · subst h10
      rw [escL,if_pos rfl]
      simp only [List.cons_append,List.nil_append]
      rw [textS_b _ _ (by decide) rfl]
      exact ih _ (hlen _) hf.2
    · by_cases h34 : c = 34
      · subst h34
        rw [escL,if_neg h10,if_pos rfl]
        simp only [List.cons_append,List.nil_append]
        rw [textS_b _ _ (by decide) rfl]
        exact ih _ (hlen _) hf.2
      · by_cases h92 : c = 92
        · subst h92
          rw [escL,if_neg h10,if_neg h34,if_pos rfl]
          simp only [List.cons_append,List.nil_append]
          rw [textS_b _ _ (by decide) rfl]
          exact ih _ (hlen _) hf.2
        · rw [escL, if_neg h10, if_neg h34, if_neg h92]
          simp only [List.cons_append,List.nil_append]
          have h32:¬c.toNat<32:=by
            have h1:=hf.1
            rw [fineB,Bool.or_eq_true,decide_eq_true_iff,beq_iff_eq] at h1
            rcases h1 with h1|h1
            · omega
            · exact absurd h1 h10
          rw [textS_c _ _ h34 h92,if_neg h32]
          exact ih _ (hlen _) hf.2
theorem skip34 (m:List UInt8):skip false (34::m)=34::m:=by simp [skip,blankB]
end Go.Proofs.YtjlnpdpkobpkiaaGreatDoor
set_option linter.unusedVariables false
set_option linter.unusedSimpArgs false
namespace Go.Proofs.YtjlnpdpkobpkiaaGreatDoor
open Go.RowKit
set_option maxHeartbeats 2000000 in
set_option maxRecDepth 100000 in
theorem WriteString_any (B b:Nat) (bs:List Value) (s:ByteArray) (w:World) (h:IsB B b bs w) (hlen:bs.length+s.size≤140737488355328) (hBw:B≤w.heap.size):
    Calls Tryz.prog 79 #[.pointer (some ⟨b,0,none⟩),.string s] w (BldPost B b (bs++Lib.strCells s) (.tuple #[.int .i64 (s.size:Int),.nilIface]) w):=by
  obtain ⟨i0,hi,hz0,hz1,hz2⟩:=info_parts infoByte
  go_enter Tryz.func79,Tryz.ntmps79
  go_wp2_with (go_at_call 104;refine (copyCheck_any B b bs _ h).mono ?_)
  rintro e w1 ⟨rfl,h1,hb1⟩
  obtain ⟨hB,v,hbk,hown,hne⟩:=h1
  have c0:w1.cell? ⟨b,0,none⟩=some (.pointer (some ⟨b,0,none⟩)):=by rw [Lib.cell_of_heap hbk];rfl
  have c1:w1.cell? ⟨b,1,none⟩=some v:=by rw [Lib.cell_of_heap hbk];rfl
  go_wp2_with (at_builtin;refine Lib.wpList_append_own_string _ rfl _ _ 178 9 rfl B 5 i0 Tryz.underlying178 Tryz.underlying9 hi hz0 hz1 hz2 _ _ _ rfl hown s rfl ?c3 ?c4 ?c5 ?_)
  case c3=>unfold maxLen;omega
  case c4=>omega
  case c5=>have:=hb1.size;omega
  intro v' w2 hown' hgrow _
  have hlt:b<w1.heap.size:=blk_lt hbk
  have hb2:w2.heap[b]? =some (.cells #[.pointer (some ⟨b,0,none⟩),v] 180 (0,0)):=by
    rw [hgrow.block b hlt (fun e=>hne e.symm)]
    exact hbk
  have d0:w2.cell? ⟨b,0,none⟩=some (.pointer (some ⟨b,0,none⟩)):=by rw [Lib.cell_of_heap hb2];rfl
  have d1:w2.cell? ⟨b,1,none⟩=some v:=by rw [Lib.cell_of_heap hb2];rfl
  have f1:w2.frozen? ⟨b,1,none⟩=false:=Lib.frozen_of_heap hb2 1
  obtain ⟨ao,n',cap,rfl⟩:∃ao n' cap,v'= .slice ao n' cap:=by
    rcases hown'.2 with ⟨hv,_⟩|⟨g,cap,cur,hv,_⟩
    · exact ⟨_,_,_,hv⟩
    · exact ⟨_,_,_,hv⟩
  go_wp2
  go_ret2
  refine ⟨rfl,.inr ?_,?_⟩
  · exact Lib.BuilderAt.put (T:=180) (e:=5) hB hb2 (bs':=bs++Lib.strCells s) (by simpa [Lib.strCells_length] using hown') (by decide)
  · exact (hb1.grown hgrow (by have:=hb1.size;omega) (fun k hk=>(hown.lt k hk).1)).setCell (p:=⟨b,1,none⟩) hB _
end Go.Proofs.YtjlnpdpkobpkiaaGreatDoor
set_option linter.unusedVariables false
set_option linter.unusedSimpArgs false
namespace Go.Proofs.YtjlnpdpkobpkiaaGreatDoor
open Go.RowKit
theorem take_succ {s:ByteArray} {k:Nat} (h:k<s.size):s.data.toList.take (k+1)=s.data.toList.take k++[s[k]]:=by
  rw [List.take_succ_eq_append_getElem (by simpa using h)];rfl
theorem take_all (s:ByteArray):s.data.toList.take s.size=s.data.toList:=List.take_of_length_le (by rw [Array.length_toList];exact Nat.le_refl _)
structure QW (w wr:World) (out:List UInt8):Prop where
  fr:Below w.heap.size w wr
  bld:IsB w.heap.size w.heap.size (Lib.byteCells out) wr
  sz:w.heap.size<wr.heap.size
theorem QW.write {w wr w1:World} {out m:List UInt8} {v:Value} {e:Ending} (h:QW w wr out) (hp:BldPost w.heap.size w.heap.size (Lib.byteCells out++Lib.byteCells m) v wr e w1):e= .returned v∧QW w w1 (out++m):=by
  obtain ⟨he,hb,hbel⟩:=hp
  have hz:=h.sz
  refine ⟨he,⟨h.fr.trans hbel,?_,by have:=hbel.size;omega⟩⟩
  rw [Lib.byteCells_append]
  exact hb
set_option maxHeartbeats 4000000 in
set_option maxRecDepth 100000 in
theorem Quote_any (s:ByteArray) (w:World) (hs:s.size≤1073741824):Calls Tryz.prog 45 #[.string s] w (RetB w (.string (bytesOf (quoteL s.data.toList)))):=by
  have Q0:Hid (QW w (w.alloc (.cells #[.pointer none,.slice none 0 0] 180)) []):=⟨(Below.refl _ _).alloc (Nat.le_refl _) _,IsB.fresh (Nat.le_refl _) (heap_alloc_new w _),by simp⟩
  go_enter Tryz.func45,Tryz.ntmps45
  go_wp2_with fail
  refine (WriteByte_any _ _ (Lib.byteCells []) 34 _ Q0.out.bld (by rw [byteCells_len];decide) (Nat.le_of_lt Q0.out.sz)).mono ?_
  intro e w1 hp
  obtain ⟨rfl,hQ⟩:=Q0.out.write (m:=[34]) hp
  have Q1:=hid hQ
  clear hQ hp
  go_wp2_with fail
  go_loopg [9] s.size (fun g t9 wr=>∃(i:Nat),t9= .int .i64 (i:Int)∧i≤s.size∧s.size-i≤g∧Hid (QW w wr (34::escL (s.data.toList.take i))))
  case atStart=>exact ⟨0,rfl,by omega,by omega,Q1⟩
  case round=>
    obtain ⟨i,rfl,hi,hg,H⟩:=hrel
    obtain ⟨wo,rfl⟩:∃x:World,x=wr:=⟨_,rfl⟩
    have hlen:(34::escL (s.data.toList.take i)).length≤1+2*s.size:=by
      have h1:=escL_len (s.data.toList.take i)
      have h2:(s.data.toList.take i).length≤i:=List.length_take_le _ _
      simp only [List.length_cons]
      omega
    by_cases hlt:i<s.size
    · have hlt' : (i : Int) < (s.size : Int) := by omega
      have HT:Hid (34::escL (s.data.toList.take (i+1))=34::escL (s.data.toList.take i)++escL [s[i]]):=by show _=_;rw [take_succ hlt,escL_append];rfl
      by_cases h10:s[i]=10
      · have e10 : ((s[i].toNat : Int) == 10) = true := byte_eq h10
        have HE:Hid (escL [s[i]]=[92,110]):=by show _=_;rw [h10];rfl
        clear h10
        go_wp2_with fail
        refine (WriteString_any _ _ _ _ _ H.out.bld (by rw [byteCells_len];show _+2≤_;omega) (Nat.le_of_lt H.out.sz)).mono ?_
        intro e w1 hp
        obtain ⟨rfl,hQ⟩:=H.out.write (m:=[92,110]) hp
        have Q2:Hid (QW w w1 (34::escL (s.data.toList.take (i+1)))):=by show QW _ _ _;rw [HT.out,HE.out];exact hQ
        clear hQ hp
        go_wp2
        go_roundg (s.size-(i+1))
        case measure=>omega
        case rel=>exact ⟨i+1,rfl,by omega,Nat.le_refl _,Q2⟩
      · have e10 : ((s[i].toNat : Int) == 10) = false := byte_ne h10
        by_cases hq:s[i]=34∨s[i]=92
        · have HE:Hid (escL [s[i]]=[92,s[i]]):=by
            show _=_
            rcases hq with h|h
            · rw [h];rfl
            · rw [h];rfl
          have hway:((s[i].toNat:Int)==34)=true∨((s[i].toNat:Int)==34)=false∧((s[i].toNat:Int)==92)=true:=by
            rcases hq with h|h
            · exact .inl (byte_eq h)
            · by_cases h' : s[i] = 34
              · exact .inl (byte_eq h')
              · exact .inr ⟨byte_ne h',byte_eq h⟩
          clear h10 hq
          rcases hway with e34|⟨e34,e92⟩
          all_goals
            go_wp2_with fail
            refine (WriteByte_any _ _ _ _ _ H.out.bld (by rw [byteCells_len];omega) (Nat.le_of_lt H.out.sz)).mono ?_
            intro e w1 hp
            obtain ⟨rfl,hQ⟩:=H.out.write (m:=[92]) hp
            have Q2:=hid hQ
            clear hQ hp
            go_wp2_with fail
            refine (WriteByte_any _ _ _ _ _ Q2.out.bld (by rw [byteCells_len,List.length_append];simp only [List.length_singleton];omega) (Nat.le_of_lt Q2.out.sz)).mono ?_
            intro e w2 hp
            obtain ⟨rfl,hQ⟩:=Q2.out.write (m:=[s[i]]) hp
            have Q3:Hid (QW w w2 (34::escL (s.data.toList.take (i+1)))):=by show QW _ _ _;rw [HT.out,HE.out];simpa using hQ
            clear hQ hp
            go_wp2
            go_roundg (s.size-(i+1))
            case measure=>omega
            case rel=>exact ⟨i+1,rfl,by omega,Nat.le_refl _,Q3⟩
        · have h34 : ¬ s[i] = 34 := fun h => hq (.inl h)
          have h92:¬s[i]=92:=fun h=>hq (.inr h)
          have e34:((s[i].toNat:Int)==34)=false:=byte_ne h34
          have e92:((s[i].toNat:Int)==92)=false:=byte_ne h92
          have HE:Hid (escL [s[i]]=[s[i]]):=by show _=_;rw [escL,if_neg h10,if_neg h34,if_neg h92];rfl
          clear h10 hq h34 h92
          go_wp2_with fail
          refine (WriteByte_any _ _ _ _ _ H.out.bld (by rw [byteCells_len];omega) (Nat.le_of_lt H.out.sz)).mono ?_
          intro e w1 hp
          obtain ⟨rfl,hQ⟩:=H.out.write (m:=[s[i]]) hp
          have Q2:Hid (QW w w1 (34::escL (s.data.toList.take (i+1)))):=by show QW _ _ _;rw [HT.out,HE.out];exact hQ
          clear hQ hp
          go_wp2
          go_roundg (s.size-(i+1))
          case measure=>omega
          case rel=>exact ⟨i+1,rfl,by omega,Nat.le_refl _,Q2⟩
    · have hie : i = s.size := by omega
      subst hie
      go_wp2_with fail
      refine (WriteByte_any _ _ _ _ _ H.out.bld (by rw [byteCells_len];omega) (Nat.le_of_lt H.out.sz)).mono ?_
      intro e w1 hp
      obtain ⟨rfl,hQ⟩:=H.out.write (m:=[34]) hp
      rw [take_all] at hQ
      have Q2:=hid hQ
      clear hQ hp
      go_wp2_with fail
      refine (Tryz.Builder_String_any w.heap.size w.heap.size _ _ Q2.out.bld (Nat.le_of_lt Q2.out.sz)).mono ?_
      rintro e w2 ⟨rfl,hb2⟩
      go_wp2
      go_ret
      exact ⟨rfl,Q2.out.fr.trans hb2⟩
end Go.Proofs.YtjlnpdpkobpkiaaGreatDoor
set_option linter.unusedVariables false
set_option linter.unusedSimpArgs false
namespace Go.Proofs.YtjlnpdpkobpkiaaGreatDoor
open Go.RowKit
def lowB (c:UInt8):Bool:=decide (97≤c.toNat) && decide (c.toNat≤122)
def headB:List UInt8→Bool
  |[]=>false
  |c::_=>lowB c
def plainB (l:List UInt8):Bool:=headB l && l.all innerB && !(l==[110,111,116])
theorem all_take {s:ByteArray} {i:Nat} (h:i<s.size):(s.data.toList.take (i+1)).all innerB=((s.data.toList.take i).all innerB && innerB s[i]):=by
  rw [take_succ h,List.all_append]
  simp
theorem all_bad {s:ByteArray} {i:Nat} (h:i<s.size) (hi:innerB s[i]=false):s.data.toList.all innerB=false:=by
  rw [List.all_eq_false]
  exact ⟨s[i],by rw [Array.mem_toList_iff];exact Array.getElem_mem (xs:=s.data) h,by rw [hi];decide⟩
theorem head_at {s:ByteArray} (h:0<s.size):headB s.data.toList=lowB s[0]:=by
  have:=drop_at (s:=s) (k:=0) h
  rw [List.drop_zero] at this
  rw [this]
  rfl
theorem toList_data (s:ByteArray):s.toList=s.data.toList:=ByteArray.toList_eq s
set_option maxHeartbeats 4000000 in
set_option maxRecDepth 100000 in
theorem Plain_any (s:ByteArray) (w:World) (hs:s.size≤1073741824):Calls Tryz.prog 95 #[.string s] w (RetS w (.bool (plainB s.data.toList))):=by
  by_cases h0:s.size=0
  · have hn : s.toList = [] := by rw [toList_data]; exact List.eq_nil_of_length_eq_zero (by rw [Array.length_toList]; exact h0)
    have hp:Hid (plainB s.data.toList=false):=by show _=_;rw [←toList_data,hn];rfl
    have he:s.toList.isEmpty=true:=by rw [hn];rfl
    clear h0
    go_enter Tryz.func95,Tryz.ntmps95
    go_wp2
    go_ret
    exact ⟨by rw [hp.out];rfl,rfl⟩
  · have hpos : 0 < s.size := by omega
    have hn:¬s.toList=[]:=by
      rw [toList_data]
      intro h
      have:s.data.toList.length=0:=by rw [h];rfl
      rw [Array.length_toList] at this
      exact h0 this
    have he:s.toList.isEmpty=false:=by simpa using hn
    clear h0
    by_cases hnot:s.data.toList=[110,111,116]
    · have hp : Hid (plainB s.data.toList = false) := by show _ = _; rw [hnot]; rfl
      have hq:(s.toList==[110,111,116])=true:=by rw [toList_data,hnot];rfl
      have hq2:s.toList=[110,111,116]:=by rw [toList_data,hnot]
      clear hnot
      go_enter Tryz.func95,Tryz.ntmps95
      go_wp2
      go_ret
      exact ⟨by rw [hp.out];rfl,rfl⟩
    · have hq : (s.toList == [110, 111, 116]) = false := by rw [toList_data]; simpa using hnot
      have hq2:¬s.toList=[110,111,116]:=by rw [toList_data];exact hnot
      have HN:Hid ((s.data.toList==[110,111,116])=false):=by show _=_;simpa using hnot
      clear hnot
      by_cases hl:lowB s[0]=true
      · have HP : Hid (headB s.data.toList = true) := by show _ = _; rw [head_at hpos]; exact hl
        have hl2:97≤s[0].toNat∧s[0].toNat≤122:=by unfold lowB at hl;simpa using hl
        obtain ⟨hl3,hl4⟩:=hl2
        clear hl
        go_enter Tryz.func95,Tryz.ntmps95
        go_wp2_with fail
        refine (between_true (by omega) (by omega)).mono ?_
        rintro e w' ⟨rfl,rfl⟩
        go_wp2_with fail
        go_loopg [18] s.size (fun g t18 wr=>∃(i:Nat),t18= .int .i64 (i:Int)∧i≤s.size∧s.size-i≤g∧Hid ((s.data.toList.take i).all innerB=true)∧w=wr)
        case atStart=>exact ⟨0,rfl,by omega,by omega,hid (by rfl),rfl⟩
        case round=>
          obtain ⟨i,rfl,hi,hg,H,hw⟩:=hrel
          subst hw
          by_cases hlt:i<s.size
          · have hlt' : (i : Int) < (s.size : Int) := by omega
            cases hin:innerB s[i] with
            |true=>
              have HI:Hid ((s.data.toList.take (i+1)).all innerB=true):=by show _=_;rw [all_take hlt,H.out,hin];rfl
              have HIN:=hid hin
              clear hin
              go_wp2_with fail
              refine (inner_any _ _).mono ?_
              rintro e w' ⟨rfl,rfl⟩
              rw [HIN.out]
              go_wp2
              go_roundg (s.size-(i+1))
              case measure=>omega
              case rel=>exact ⟨i+1,rfl,by omega,Nat.le_refl _,HI,rfl⟩
            |false=>
              have HI:Hid (plainB s.data.toList=false):=by show _=_;rw [plainB,all_bad hlt hin];simp
              have HIN:=hid hin
              clear hin
              go_wp2_with fail
              refine (inner_any _ _).mono ?_
              rintro e w' ⟨rfl,rfl⟩
              rw [HIN.out]
              go_wp2
              go_ret
              exact ⟨by rw [HI.out];rfl,rfl⟩
          · have hie : i = s.size := by omega
            subst hie
            go_wp2
            go_ret
            have HA:=H.out
            rw [take_all] at HA
            exact ⟨by rw [plainB,HP.out,HA,HN.out];rfl,rfl⟩
      · have hp : Hid (plainB s.data.toList = false) := by show _ = _; rw [plainB, head_at hpos, Bool.eq_false_iff.2 hl]; rfl
        have hl2:(s[0].toNat:Int)<97∨122<(s[0].toNat:Int):=by
          unfold lowB at hl
          simp only [Bool.and_eq_true,decide_eq_true_iff] at hl
          omega
        have HL:=hid hl2
        clear hl hl2
        go_enter Tryz.func95,Tryz.ntmps95
        go_wp2_with fail
        refine (between_false HL.out).mono ?_
        rintro e w' ⟨rfl,rfl⟩
        go_wp2
        go_ret
        exact ⟨by rw [hp.out];rfl,rfl⟩
end Go.Proofs.YtjlnpdpkobpkiaaGreatDoor
