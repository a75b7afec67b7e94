/- Joined of: Pa2, Rd1, Rd2, Gen34, Rd3, Gen36, Gen33, Ok2, Gen177, Lr, Ls, Gen180, Gen178, Gen179, Gen174, Gen175, Lt, Gen181, Gen182, Gen184. -/
import Derived.Test.YtepgkcimmdmgcaaGreatDoorPartD
import Derived.Test.YtepgkcimmdmgcaaGreatDoorPartB
import Derived.Test.YtepgkcimmdmgcaaGreatDoorPartC
import Derived.Shelf.Strings.SlTrimAscii
namespace Go.Proofs.YtepgkcimmdmgcaaGreatDoor
open Go.RowKit

theorem cut_minus (z:Int) (w:World):Calls Tryz.prog 153 #[.string ⟨(Lib.itoa z).toArray⟩,.string ⟨#[45]⟩] w fun e w'=>
    e=.returned (.tuple #[.string ⟨(Lib.decDigits z.natAbs).toArray⟩,.bool (decide (z<0))])∧w=w':=by
  refine (Tryz.strings_CutPrefix _ _ _).mono ?_
  rintro e w1 ⟨he,rfl⟩
  refine ⟨?_,rfl⟩
  rw [he]
  show Ending.returned (.tuple #[.string ⟨(Lib.trimPrefix (Lib.itoa z) [45]).toArray⟩,.bool (Lib.hasPrefix (Lib.itoa z) [45])])=_
  by_cases h:z<0
  · have h1:Lib.hasPrefix (Lib.itoa z) [45]=true:=by rw [itoa_neg h];simp [Lib.hasPrefix]
    rw [Lib.trimPrefix,h1,if_pos rfl,itoa_neg h,decide_eq_true h];rfl
  · have h1:Lib.hasPrefix (Lib.itoa z) [45]=false:=by
      rw [itoa_nonneg (by omega)]
      rcases hd:Lib.decDigits z.natAbs with _ | ⟨c,l⟩
      · rfl
      · have hc:=dec_all z.natAbs c (by rw [hd];simp)
        have hne:¬ (45:UInt8)=c:=fun e=>by rw [← e] at hc;simp at hc
        simp [Lib.hasPrefix,List.isPrefixOf,hne]
    rw [Lib.trimPrefix,h1,if_neg (by decide),itoa_nonneg (by omega),decide_eq_false h]
def strSize (v:Value):Nat:=match v with | .string s=>s.size | _=>0
theorem extract_take (R:ByteArray) (q:Nat):(R.extract 0 q).data.toList=R.data.toList.take q:=by rw [Lib.extract_data];simp
theorem extract_drop (R:ByteArray) (q:Nat):(R.extract q R.size).data.toList=R.data.toList.drop q:=by
  rw [Lib.extract_data,List.take_of_length_le];simp
set_option maxRecDepth 100000 in
set_option maxHeartbeats 4000000 in
theorem parse_i {k:Nat} (z:Int) (hz:Sz k z) (hk:k≤60000) (w:World):
    Calls Tryz.prog 129 #[.string ⟨(Lib.itoa z).toArray⟩] w fun e w'=>(∃ x y,e=.returned (.tuple #[.agg #[x,y],.int .i64 0])∧IsInt w' k x y z)∧Gr w w':=by
  obtain ⟨n,hn⟩:∃ n,n=z.natAbs:=⟨_,rfl⟩
  have hnk:n<2 ^ k:=by rw [hn];exact hz
  have hlen:=dec_len_bits k n hnk
  have hit:(Lib.itoa z).length≤k+2:=by
    by_cases h:z<0
    · rw [itoa_neg h,← hn];simp;omega
    · rw [itoa_nonneg (by omega),← hn];omega
  obtain ⟨s,hs⟩:∃ s:ByteArray,s=⟨(Lib.itoa z).toArray⟩:=⟨_,rfl⟩
  have hss:s.size≤65536:=by rw [hs];show (Lib.itoa z).toArray.size≤_;simp;omega
  obtain ⟨D,hD⟩:∃ D:ByteArray,D=⟨(Lib.decDigits n).toArray⟩:=⟨_,rfl⟩
  have HD:Hid (D.data.toList=Lib.decDigits n):=by rw [Hid,hD]
  have hDs:D.size=(Lib.decDigits n).length:=by rw [hD];show (Lib.decDigits n).toArray.size=_;simp
  have hD0:0<D.size:=by rw [hDs];exact dec_pos n
  have hD1:D.size≤60001:=by omega
  have hc:=cut_minus z (w.alloc (.cells #[.bool false,.slice none 0 0] 69))
  rw [← hn,← hD,← hs] at hc
  have hda:∀ c ∈ D.data.toList,48≤c.toNat∧c.toNat≤57:=by rw [HD.out];exact dec_all n
  have hcn:=contains_no D hda
  have hne:(D.toList==[])=false:=by
    rw [beq_eq_false_iff_ne,ByteArray.toList_eq,HD.out];exact dec_ne' n
  have hz0:(D[0].toNat:Int)=48→D.size=1∧n=0:=by
    intro h
    rcases Nat.eq_zero_or_pos n with e | e
    · rw [hDs,e];exact ⟨by rw [dec_zero];rfl,rfl⟩
    · obtain ⟨c,hc1,hc2,_⟩:=dec_head e
      have:=getElem_toList HD.out hD0 hc1
      rw [this] at h
      omega
  have HN:=Lib.hid hn
  have HZ0:=Lib.hid hz0
  have HDa:=Lib.hid hda
  have HDs:=Lib.hid hDs
  have HS:=Lib.hid hs
  rw [← hs]
  clear hn hz0 hda hDs hD hit hs
  go_enter Tryz.func129,Tryz.ntmps129
  go_wp2_with fail
  (with_reducible refine hc.mono ?_)
  rintro e w1 ⟨rfl,rfl⟩
  clear hc
  go_wp2_with fail
  (with_reducible refine (hcn _).mono ?_)
  rintro e w2 ⟨rfl,g2⟩
  clear hcn
  by_cases h48:(D[0].toNat:Int)=48
  · have hzz:=HZ0.out h48
    have hz1:¬ (1:Int)<(D.size:Int):=by omega
    have hz2:¬ z<0:=by have:=HN.out;omega
    have h48':((D[0].toNat:Int)==48)=true:=by simpa using h48
    clear h48 hzz
    go_wp2
    go_loopw [4,6] (fun r m wr=>∃ (R:ByteArray) (V:Nat) (mo:Option Addr) (ml mc:Nat),r=.string R∧m=.slice mo ml mc∧ml≤k∧R.size≤60001∧Hid (Mag wr mo ml mc (V:Int)∧(∀ c ∈ R.data.toList,48≤c.toNat∧c.toNat≤57)∧V*10 ^ R.size+valL R.data.toList=n)∧Gr (w.alloc (.cells #[.bool false,.slice none 0 0] 69)) wr) (fun r _ _=>strSize r)
    case atStart=>exact ⟨D,0,none,0,0,rfl,rfl,by omega,hD1,⟨⟨Nat.le_refl _,NL.zero,Row.nil _ _ _⟩,HDa.out,by rw [HD.out,valL_dec];simp⟩,g2⟩
    case round=>
      obtain ⟨R,V,mo,ml,mc,rfl,rfl,hml,hR1,hh,hG⟩:=hrel
      by_cases hp:0<R.size
      · obtain ⟨q,hq⟩:∃ q:Nat,q=(R.size - 1) % 9+1:=⟨_,rfl⟩
        have hq9:q≤9:=by omega
        have hq0:0<q:=by omega
        have hqR:q≤R.size:=by omega
        have hqe:((R.size:Int) - 1) % 9+1=(q:Int):=by omega
        have HQ:=Lib.hid hq
        clear hq
        go_wp2
        obtain ⟨wo,hwo⟩:∃ wo:World,wo=wr:=⟨_,rfl⟩
        subst hwo
        go_loopw [8,48] (fun b i wq=>∃ (j:Nat) (x:Int),b=.int .u32 x∧i=.int .i64 j∧j≤q∧1≤x∧x≤1000000000∧Hid (x=10 ^ j)∧wq=wo) (fun _ i _=>q - (intOf i).toNat)
        case atStart=>exact ⟨0,1,rfl,rfl,by omega,by omega,by omega,rfl,rfl⟩
        case round=>
          obtain ⟨j,x,rfl,rfl,hj,hx0,hx1,hx,rfl⟩:=hrel
          by_cases hlt:j<q
          · have hx8:x≤100000000:=by
              rw [hx.out]
              have h8:(10:Nat) ^ j≤100000000:=Nat.le_trans (Nat.pow_le_pow_right (by omega) (show j≤8 by omega)) (by decide)
              have h9:=Int.ofNat_le.2 h8
              rw [Int.natCast_pow] at h9
              exact h9
            go_wp2
            go_roundw
            case rel=>exact ⟨j+1,x*10,rfl,by go_num,by omega,by omega,by omega,by rw [Hid,hx.out,Int.pow_succ],by first | rfl | trivial⟩
            case measure=>simp [intOf];omega
          · obtain rfl:j=q:=by omega
            obtain ⟨T,hT⟩:∃ T,R.extract 0 j=T:=⟨_,rfl⟩
            obtain ⟨U,hU⟩:∃ U,R.extract j R.size=U:=⟨_,rfl⟩
            have hTl:T.data.toList=R.data.toList.take j:=by rw [← hT,extract_take]
            have hUl:U.data.toList=R.data.toList.drop j:=by rw [← hU,extract_drop]
            have hRl:R.data.toList.length=R.size:=by simp
            have hTs:T.size=j:=by
              have h1:=congrArg List.length hTl
              rw [List.length_take,hRl] at h1
              have h2:T.data.toList.length=T.size:=by simp
              omega
            have hUs:U.size=R.size - j:=by
              have h1:=congrArg List.length hUl
              rw [List.length_drop,hRl] at h1
              have h2:U.data.toList.length=U.size:=by simp
              omega
            obtain ⟨hm,hda,hval⟩:=hh.out
            have hTd:∀ c ∈ T.data.toList,48≤c.toNat∧c.toNat≤57:=fun c hc=>hda c (by rw [hTl] at hc;exact List.mem_of_mem_take hc)
            have hUd:∀ c ∈ U.data.toList,48≤c.toNat∧c.toNat≤57:=fun c hc=>hda c (by rw [hUl] at hc;exact List.mem_of_mem_drop hc)
            obtain ⟨u,hu⟩:∃ u,u=valL T.data.toList:=⟨_,rfl⟩
            have hu1:u<1000000000:=by
              have h1:=valL_lt _ hTd
              have h2:T.data.toList.length=T.size:=by simp
              rw [h2,hTs] at h1
              have:(10:Nat) ^ j≤10 ^ 9:=Nat.pow_le_pow_right (by omega) hq9
              omega
            have hval2:(V*10 ^ j+u)*10 ^ U.size+valL U.data.toList=n:=by
              have h1:=valL_append (R.data.toList.take j) (R.data.toList.drop j)
              rw [List.take_append_drop,← hTl,← hUl] at h1
              have h2:U.data.toList.length=U.size:=by simp
              rw [h1,h2,← hu,show R.size=j+U.size by omega,Nat.pow_add] at hval
              rw [← hval];grind
            have hVk:V*10 ^ j+u<2 ^ k:=by
              have h1:V*10 ^ j+u≤(V*10 ^ j+u)*10 ^ U.size:=Nat.le_mul_of_pos_right _ (Nat.pow_pos (by omega))
              omega
            have hpu:=parse_uint T hTd (by omega) (by omega)
            rw [← hu] at hpu
            have HV2:=Lib.hid hval2
            have HVk:=Lib.hid hVk
            have HUd:=Lib.hid hUd
            have HX:=hx
            have hTs1:T.size≤9:=by omega
            have hUs1:U.size<R.size:=by omega
            have hUs2:U.size≤60001:=by omega
            clear hTl hUl hRl hTd hUd hda hval hval2 hVk hu hTs hUs hqe
            have hu2:(u:Int)<1000000000:=by omega
            go_wp2_with fail
            (with_reducible refine (hpu _).mono ?_)
            rintro e w5 ⟨rfl,g5⟩
            clear hpu
            go_wp2_with fail
            (with_reducible refine (scale_c mo ml mc (V:Int) x (u:Int) _ (by omega) (hm.kp g5.kp) (by omega) (by omega) (by omega) (by omega)).mono ?_)
            rintro e w6 ⟨⟨go,k6,c6,rfl,hm6,hk6⟩,g6⟩
            have hm7:Mag w6 go k6 c6 ((V*10 ^ j+u:Nat):Int):=by
              rw [HX.out] at hm6
              have e:((V*10 ^ j+u:Nat):Int)=(V:Int)*10 ^ j+(u:Int):=by push_cast;rfl
              rw [e];exact hm6
            have hk7:k6≤k:=hm7.nl.len_sz (show Sz k _ by unfold Sz;rw [Int.natAbs_natCast];exact HVk.out)
            clear hm6
            go_wp2
            go_roundw
            case rel=>exact ⟨U,V*10 ^ j+u,go,k6,c6,rfl,rfl,hk7,hUs2,⟨hm7,HUd.out,HV2.out⟩,(hG.trans g5).trans g6⟩
            case measure=>simp [strSize];omega
      · have hR0:R.size=0:=by omega
        obtain ⟨hm,hda,hval⟩:=hh.out
        have hVn:V=n:=by
          have h2:R.data.toList.length=R.size:=by simp
          have h1:R.data.toList=[]:=List.length_eq_zero_iff.1 (by rw [h2];exact hR0)
          rw [h1,hR0] at hval
          simpa [valL] using hval
        rw [hVn] at hm
        have HR0:=Lib.hid hR0
        clear hR0 hda hval hh hVn
        have p2:=Gr.heap hG (heap_alloc_new w (.cells #[.bool false,.slice none 0 0] 69))
        go_wp2_with fail
        (with_reducible refine (signed_c (decide (z<0)) mo ml mc (n:Int) _ (by omega) hm.cap hm.nl.nonneg hm.nl.top hm.row).mono ?_)
        rintro e w5 ⟨⟨k5,rfl,hm5,hk5⟩,g5⟩
        have p3:=Gr.heap g5 p2
        have d0:=cells_of p3 0
        have d1:=cells_of p3 1
        have d2:=free_of p3
        have gw3:Gr w w5:=(Gr.alloc w _).trans (hG.trans g5)
        have hint:=IsInt.mk' (z:=z) (s:=decide (z<0)) (k:=k) (hm5.gr g5) (by rw [HN.out]) (fun _=>rfl) hz
        obtain ⟨bb,hbb⟩:∃ bb,bb=(decide (z<0)&&decide (0<k5)):=⟨_,rfl⟩
        rw [← hbb] at hint ⊢
        clear hbb hm hm5 p2
        go_wp2
        have p4:=heap_setCell_at (i:=1) (.slice mo k5 mc) (heap_setCell_at (i:=0) (.bool bb) p3)
        have hst:=(St.setCell w5 w.heap.size 0 (.bool bb)).trans (St.setCell _ w.heap.size 1 (.slice mo k5 mc))
        exact bodyPost_ret (v:=.tuple #[.agg #[.bool bb,.slice mo k5 mc],.int .i64 0]) (ret_cell_tmp' _ _ _ rfl rfl p4 (by kernel_rfl) rfl) rfl ⟨⟨_,_,rfl,hint.kp (hst.kp p3 (by decide))⟩,hst.gr gw3 (Nat.le_refl _)⟩
  · have h48':((D[0].toNat:Int)==48)=false:=by simpa using h48
    clear h48
    go_wp2
    go_loopw [4,6] (fun r m wr=>∃ (R:ByteArray) (V:Nat) (mo:Option Addr) (ml mc:Nat),r=.string R∧m=.slice mo ml mc∧ml≤k∧R.size≤60001∧Hid (Mag wr mo ml mc (V:Int)∧(∀ c ∈ R.data.toList,48≤c.toNat∧c.toNat≤57)∧V*10 ^ R.size+valL R.data.toList=n)∧Gr (w.alloc (.cells #[.bool false,.slice none 0 0] 69)) wr) (fun r _ _=>strSize r)
    case atStart=>exact ⟨D,0,none,0,0,rfl,rfl,by omega,hD1,⟨⟨Nat.le_refl _,NL.zero,Row.nil _ _ _⟩,HDa.out,by rw [HD.out,valL_dec];simp⟩,g2⟩
    case round=>
      obtain ⟨R,V,mo,ml,mc,rfl,rfl,hml,hR1,hh,hG⟩:=hrel
      by_cases hp:0<R.size
      · obtain ⟨q,hq⟩:∃ q:Nat,q=(R.size - 1) % 9+1:=⟨_,rfl⟩
        have hq9:q≤9:=by omega
        have hq0:0<q:=by omega
        have hqR:q≤R.size:=by omega
        have hqe:((R.size:Int) - 1) % 9+1=(q:Int):=by omega
        have HQ:=Lib.hid hq
        clear hq
        go_wp2
        obtain ⟨wo,hwo⟩:∃ wo:World,wo=wr:=⟨_,rfl⟩
        subst hwo
        go_loopw [8,48] (fun b i wq=>∃ (j:Nat) (x:Int),b=.int .u32 x∧i=.int .i64 j∧j≤q∧1≤x∧x≤1000000000∧Hid (x=10 ^ j)∧wq=wo) (fun _ i _=>q - (intOf i).toNat)
        case atStart=>exact ⟨0,1,rfl,rfl,by omega,by omega,by omega,rfl,rfl⟩
        case round=>
          obtain ⟨j,x,rfl,rfl,hj,hx0,hx1,hx,rfl⟩:=hrel
          by_cases hlt:j<q
          · have hx8:x≤100000000:=by
              rw [hx.out]
              have h8:(10:Nat) ^ j≤100000000:=Nat.le_trans (Nat.pow_le_pow_right (by omega) (show j≤8 by omega)) (by decide)
              have h9:=Int.ofNat_le.2 h8
              rw [Int.natCast_pow] at h9
              exact h9
            go_wp2
            go_roundw
            case rel=>exact ⟨j+1,x*10,rfl,by go_num,by omega,by omega,by omega,by rw [Hid,hx.out,Int.pow_succ],by first | rfl | trivial⟩
            case measure=>simp [intOf];omega
          · obtain rfl:j=q:=by omega
            obtain ⟨T,hT⟩:∃ T,R.extract 0 j=T:=⟨_,rfl⟩
            obtain ⟨U,hU⟩:∃ U,R.extract j R.size=U:=⟨_,rfl⟩
            have hTl:T.data.toList=R.data.toList.take j:=by rw [← hT,extract_take]
            have hUl:U.data.toList=R.data.toList.drop j:=by rw [← hU,extract_drop]
            have hRl:R.data.toList.length=R.size:=by simp
            have hTs:T.size=j:=by
              have h1:=congrArg List.length hTl
              rw [List.length_take,hRl] at h1
              have h2:T.data.toList.length=T.size:=by simp
              omega
            have hUs:U.size=R.size - j:=by
              have h1:=congrArg List.length hUl
              rw [List.length_drop,hRl] at h1
              have h2:U.data.toList.length=U.size:=by simp
              omega
            obtain ⟨hm,hda,hval⟩:=hh.out
            have hTd:∀ c ∈ T.data.toList,48≤c.toNat∧c.toNat≤57:=fun c hc=>hda c (by rw [hTl] at hc;exact List.mem_of_mem_take hc)
            have hUd:∀ c ∈ U.data.toList,48≤c.toNat∧c.toNat≤57:=fun c hc=>hda c (by rw [hUl] at hc;exact List.mem_of_mem_drop hc)
            obtain ⟨u,hu⟩:∃ u,u=valL T.data.toList:=⟨_,rfl⟩
            have hu1:u<1000000000:=by
              have h1:=valL_lt _ hTd
              have h2:T.data.toList.length=T.size:=by simp
              rw [h2,hTs] at h1
              have:(10:Nat) ^ j≤10 ^ 9:=Nat.pow_le_pow_right (by omega) hq9
              omega
            have hval2:(V*10 ^ j+u)*10 ^ U.size+valL U.data.toList=n:=by
              have h1:=valL_append (R.data.toList.take j) (R.data.toList.drop j)
              rw [List.take_append_drop,← hTl,← hUl] at h1
              have h2:U.data.toList.length=U.size:=by simp
              rw [h1,h2,← hu,show R.size=j+U.size by omega,Nat.pow_add] at hval
              rw [← hval];grind
            have hVk:V*10 ^ j+u<2 ^ k:=by
              have h1:V*10 ^ j+u≤(V*10 ^ j+u)*10 ^ U.size:=Nat.le_mul_of_pos_right _ (Nat.pow_pos (by omega))
              omega
            have hpu:=parse_uint T hTd (by omega) (by omega)
            rw [← hu] at hpu
            have HV2:=Lib.hid hval2
            have HVk:=Lib.hid hVk
            have HUd:=Lib.hid hUd
            have HX:=hx
            have hTs1:T.size≤9:=by omega
            have hUs1:U.size<R.size:=by omega
            have hUs2:U.size≤60001:=by omega
            clear hTl hUl hRl hTd hUd hda hval hval2 hVk hu hTs hUs hqe
            have hu2:(u:Int)<1000000000:=by omega
            go_wp2_with fail
            (with_reducible refine (hpu _).mono ?_)
            rintro e w5 ⟨rfl,g5⟩
            clear hpu
            go_wp2_with fail
            (with_reducible refine (scale_c mo ml mc (V:Int) x (u:Int) _ (by omega) (hm.kp g5.kp) (by omega) (by omega) (by omega) (by omega)).mono ?_)
            rintro e w6 ⟨⟨go,k6,c6,rfl,hm6,hk6⟩,g6⟩
            have hm7:Mag w6 go k6 c6 ((V*10 ^ j+u:Nat):Int):=by
              rw [HX.out] at hm6
              have e:((V*10 ^ j+u:Nat):Int)=(V:Int)*10 ^ j+(u:Int):=by push_cast;rfl
              rw [e];exact hm6
            have hk7:k6≤k:=hm7.nl.len_sz (show Sz k _ by unfold Sz;rw [Int.natAbs_natCast];exact HVk.out)
            clear hm6
            go_wp2
            go_roundw
            case rel=>exact ⟨U,V*10 ^ j+u,go,k6,c6,rfl,rfl,hk7,hUs2,⟨hm7,HUd.out,HV2.out⟩,(hG.trans g5).trans g6⟩
            case measure=>simp [strSize];omega
      · have hR0:R.size=0:=by omega
        obtain ⟨hm,hda,hval⟩:=hh.out
        have hVn:V=n:=by
          have h2:R.data.toList.length=R.size:=by simp
          have h1:R.data.toList=[]:=List.length_eq_zero_iff.1 (by rw [h2];exact hR0)
          rw [h1,hR0] at hval
          simpa [valL] using hval
        rw [hVn] at hm
        have HR0:=Lib.hid hR0
        clear hR0 hda hval hh hVn
        have p2:=Gr.heap hG (heap_alloc_new w (.cells #[.bool false,.slice none 0 0] 69))
        go_wp2_with fail
        (with_reducible refine (signed_c (decide (z<0)) mo ml mc (n:Int) _ (by omega) hm.cap hm.nl.nonneg hm.nl.top hm.row).mono ?_)
        rintro e w5 ⟨⟨k5,rfl,hm5,hk5⟩,g5⟩
        have p3:=Gr.heap g5 p2
        have d0:=cells_of p3 0
        have d1:=cells_of p3 1
        have d2:=free_of p3
        have gw3:Gr w w5:=(Gr.alloc w _).trans (hG.trans g5)
        have hint:=IsInt.mk' (z:=z) (s:=decide (z<0)) (k:=k) (hm5.gr g5) (by rw [HN.out]) (fun _=>rfl) hz
        obtain ⟨bb,hbb⟩:∃ bb,bb=(decide (z<0)&&decide (0<k5)):=⟨_,rfl⟩
        rw [← hbb] at hint ⊢
        clear hbb hm hm5 p2
        go_wp2
        have p4:=heap_setCell_at (i:=1) (.slice mo k5 mc) (heap_setCell_at (i:=0) (.bool bb) p3)
        have hst:=(St.setCell w5 w.heap.size 0 (.bool bb)).trans (St.setCell _ w.heap.size 1 (.slice mo k5 mc))
        exact bodyPost_ret (v:=.tuple #[.agg #[.bool bb,.slice mo k5 mc],.int .i64 0]) (ret_cell_tmp' _ _ _ rfl rfl p4 (by kernel_rfl) rfl) rfl ⟨⟨_,_,rfl,hint.kp (hst.kp p3 (by decide))⟩,hst.gr gw3 (Nat.le_refl _)⟩
theorem idx_slash:∀ (l:List UInt8),Lib.index l [47]=(match (cutL l).2 with | none=>-1 | some _=>((cutL l).1.length:Int))
  | []=>rfl
  | c::l=>by
    have ih:=idx_slash l
    unfold Lib.index
    by_cases h:c=47
    · subst h
      have e:cutL (47::l)=([],some l):=by simp [cutL]
      rw [e]
      simp [List.isPrefixOf]
    · have e:cutL (c::l)=(c::(cutL l).1,(cutL l).2):=by
        conv=>lhs;unfold cutL
        rw [if_neg h]
      have h2:¬ (47:UInt8)=c:=fun x=>h x.symm
      have h3:[47].isPrefixOf (c::l)=false:=by simp [List.isPrefixOf,h2]
      rw [e,h3,ih]
      cases hd:(cutL l).2 with
      | none=>simp
      | some d=>
        have:¬ (((cutL l).1.length:Int)==-1)=true:=by simp
        simp [this]
theorem cut_slash (l:List UInt8):Lib.cut l [47]=(numL l,((cutL l).2.getD [],(cutL l).2.isSome)):=by
  have h1:=idx_slash l
  have h2:=cutL_eq l
  unfold Lib.cut numL
  cases hd:(cutL l).2 with
  | none=>
    rw [hd] at h1 h2;dsimp only at h1 h2
    rw [h1,if_neg (by omega)]
    simp [← h2]
  | some d=>
    rw [hd] at h1 h2;dsimp only at h1 h2
    rw [h1,if_pos (Int.natCast_nonneg _)]
    generalize (cutL l).1=a at*
    subst h2
    simp
/-- the variable of the library's that says how long a short search is holds some int -/
def Mx (w:World):Prop:=∃ m:Int,w.cell? ⟨0,0,none⟩=some (.int .i64 m)
theorem Mx.gr {w w':World} (h:Mx w) (g:Gr w w'):Mx w':=by
  obtain ⟨m,hm⟩:=h
  exact ⟨m,(Below.cell g (World.block_lt_of_cell? w _ hm)).trans hm⟩
theorem cut_q (q:Rat) {k:Nat} (h1:Sz k q.num) (h2:Sz k (q.den:Int)) (hk:k≤400000) {w:World} (hm:Mx w):
    Calls Tryz.prog 125 #[.string ⟨(ratL q).toArray⟩,.string ⟨#[47]⟩] w fun e w'=>e=.returned (.tuple #[.string ⟨(Lib.itoa q.num).toArray⟩,.string ⟨(if q.den=1 then [] else Lib.itoa (q.den:Int)).toArray⟩,.bool (decide (q.den≠1))])∧Gr w w':=by
  obtain ⟨m,hm⟩:=hm
  have hl:=ratL_len h1 h2
  refine (Tryz.strings_Cut ⟨(ratL q).toArray⟩ ⟨#[47]⟩ m w (by show (ratL q).toArray.size<_;simp;omega) hm).mono ?_
  rintro e w1 ⟨he,n,rfl⟩
  refine ⟨?_,(Below.refl _ _).drewN _⟩
  rw [he]
  have e1:(⟨(ratL q).toArray⟩:ByteArray).data.toList=ratL q:=by simp
  rw [e1,show (⟨#[47]⟩:ByteArray).data.toList=[47] from rfl,cut_slash,numL_ratL,cutL_ratL]
  by_cases h:q.den=1<;>simp [h]
theorem trimprefix_minus (z:Int) (w:World):Calls Tryz.prog 127 #[.string ⟨(Lib.itoa z).toArray⟩,.string ⟨#[45]⟩] w fun e w'=>e=.returned (.string ⟨(Lib.decDigits z.natAbs).toArray⟩)∧Gr w w':=by
  refine (Tryz.strings_TrimPrefix _ _ _).mono ?_
  rintro e w1 ⟨he,rfl⟩
  refine ⟨?_,Gr.refl _⟩
  rw [he]
  show Ending.returned (.string ⟨(Lib.trimPrefix (Lib.itoa z) [45]).toArray⟩)=_
  by_cases h:z<0
  · have h1:Lib.hasPrefix (Lib.itoa z) [45]=true:=by rw [itoa_neg h];simp [Lib.hasPrefix]
    rw [Lib.trimPrefix,h1,if_pos rfl,itoa_neg h];rfl
  · have h1:Lib.hasPrefix (Lib.itoa z) [45]=false:=by
      rw [itoa_nonneg (by omega)]
      rcases hd:Lib.decDigits z.natAbs with _ | ⟨c,l⟩
      · rfl
      · have hc:=dec_all z.natAbs c (by rw [hd];simp)
        have hne:¬ (45:UInt8)=c:=fun e=>by rw [← e] at hc;simp at hc
        simp [Lib.hasPrefix,List.isPrefixOf,hne]
    rw [Lib.trimPrefix,h1,if_neg (by decide),itoa_nonneg (by omega)]
theorem trimS_all {l cs:List UInt8} (h:∀ c ∈ l,cs.contains c=true):Lib.trimS l cs=[]:=by
  have key:∀ {l:List UInt8},(∀ c ∈ l,cs.contains c=true)→l.dropWhile (cs.contains ·)=[]:=by
    intro l
    induction l with
    | nil=>intro _;rfl
    | cons c l ih=>intro h;rw [List.dropWhile_cons,if_pos (h c (by simp))];exact ih (fun x hx=>h x (by simp [hx]))
  unfold Lib.trimS Lib.trimRightS Lib.trimLeftS
  rw [key (l:=l.reverse) (fun c hc=>h c (by simpa using hc))]
  rfl
theorem digit_in {c:UInt8} (h:48≤c.toNat∧c.toNat≤57):[48,49,50,51,52,53,54,55,56,57].contains c=true:=by
  have:c=48∨c=49∨c=50∨c=51∨c=52∨c=53∨c=54∨c=55∨c=56∨c=57:=by
    simp only [← UInt8.toNat_inj]
    simp
    omega
  rcases this with rfl | rfl | rfl | rfl | rfl | rfl | rfl | rfl | rfl | rfl<;>decide
theorem trim_digits (n:Nat) (hn:(Lib.decDigits n).length≤1000000) (w:World):
    Calls Tryz.prog 128 #[.string ⟨(Lib.decDigits n).toArray⟩,.string ⟨#[48,49,50,51,52,53,54,55,56,57]⟩] w fun e w'=>e=.returned (.string ⟨#[]⟩)∧Gr w w':=by
  refine (Any.strings_Trim_laid Tryz.lays160 (by kernel_rfl) ⟨(Lib.decDigits n).toArray⟩ ⟨#[48,49,50,51,52,53,54,55,56,57]⟩ w (by show (Lib.decDigits n).toArray.size≤_;simp;omega) (by decide) (ascii_of_all (by decide))).mono ?_
  rintro e w1 ⟨he,g⟩
  refine ⟨?_,g⟩
  rw [he,trimS_all (l:=(⟨(Lib.decDigits n).toArray⟩:ByteArray).data.toList) (fun c hc=>digit_in (dec_all n c (by simpa using hc)))]
set_option maxHeartbeats 1000000 in
theorem rdigits_t (n:Nat) (hn:(Lib.decDigits n).length≤1000000) (w:World):
    Calls Tryz.prog 126 #[.string ⟨(Lib.decDigits n).toArray⟩] w fun e w'=>e=.returned (.bool true)∧Gr w w':=by
  obtain ⟨D,hD⟩:∃ D:ByteArray,D=⟨(Lib.decDigits n).toArray⟩:=⟨_,rfl⟩
  have hc:=trim_digits n hn
  have hne:(D.toList==[])=false:=by
    rw [beq_eq_false_iff_ne,ByteArray.toList_eq,hD]
    simpa using dec_ne' n
  rw [← hD] at hc ⊢
  clear hD
  go_enter Tryz.func126,Tryz.ntmps126
  go_wp2_with fail
  (with_reducible refine (hc _).mono ?_)
  rintro e w1 ⟨rfl,g1⟩
  clear hc
  go_wp2
  go_ret
  exact ⟨rfl,g1⟩
theorem drop_mem {p:UInt8→Bool}:∀ {l:List UInt8} {c:UInt8},c ∈ l→p c=false→c ∈ l.dropWhile p
  | [],_,h,_=>by cases h
  | x::l,c,h,hc=>by
    rw [List.dropWhile_cons]
    by_cases hx:p x=true
    · rw [if_pos hx]
      rcases List.mem_cons.1 h with e | h
      · rw [e,hx] at hc;cases hc
      · exact drop_mem h hc
    · rw [if_neg hx];exact h
theorem trimS_some {l cs:List UInt8} {c:UInt8} (h:c ∈ l) (hc:cs.contains c=false):Lib.trimS l cs≠[]:=by
  have h1:c ∈ Lib.trimRightS l cs:=by
    unfold Lib.trimRightS
    rw [List.mem_reverse]
    exact drop_mem (by simpa using h) hc
  exact fun e=>by have:=drop_mem (p:=(cs.contains ·)) h1 hc;unfold Lib.trimS Lib.trimLeftS at e;rw [e] at this;cases this
theorem trim_zero (d:Nat) (hd:0<d) (hn:(Lib.decDigits d).length≤1000000) (w:World):
    Calls Tryz.prog 128 #[.string ⟨(Lib.decDigits d).toArray⟩,.string ⟨#[48]⟩] w fun e w'=>(∃ L:List UInt8,e=.returned (.string ⟨L.toArray⟩)∧L≠[])∧Gr w w':=by
  refine (Any.strings_Trim_laid Tryz.lays160 (by kernel_rfl) ⟨(Lib.decDigits d).toArray⟩ ⟨#[48]⟩ w (by show (Lib.decDigits d).toArray.size≤_;simp;omega) (by decide) (ascii_of_all (by decide))).mono ?_
  rintro e w1 ⟨he,g⟩
  obtain ⟨c,hc,h1,_⟩:=dec_head hd
  refine ⟨⟨_,he,trimS_some (c:=c) (by simpa using List.mem_of_getElem? hc) ?_⟩,g⟩
  have:¬ c=48:=fun e=>by rw [e] at h1;simp at h1
  simp [this]
theorem cut_w (q:Rat) {k:Nat} (h1:Sz k q.num) (h2:Sz k (q.den:Int)) (hk:k≤400000) (hw:q.den=1) {w:World} (hm:Mx w):
    Calls Tryz.prog 125 #[.string ⟨(ratL q).toArray⟩,.string ⟨#[47]⟩] w fun e w'=>e=.returned (.tuple #[.string ⟨(Lib.itoa q.num).toArray⟩,.string ⟨([]:List UInt8).toArray⟩,.bool false])∧Gr w w':=by
  have:=cut_q q h1 h2 hk hm
  rw [if_pos hw,show decide (q.den≠1)=false by simp [hw]] at this
  exact this
theorem cut_f (q:Rat) {k:Nat} (h1:Sz k q.num) (h2:Sz k (q.den:Int)) (hk:k≤400000) (hw:¬ q.den=1) {w:World} (hm:Mx w):
    Calls Tryz.prog 125 #[.string ⟨(ratL q).toArray⟩,.string ⟨#[47]⟩] w fun e w'=>e=.returned (.tuple #[.string ⟨(Lib.itoa q.num).toArray⟩,.string ⟨(Lib.itoa (q.den:Int)).toArray⟩,.bool true])∧Gr w w':=by
  have:=cut_q q h1 h2 hk hm
  rw [if_neg hw,show decide (q.den≠1)=true by simp [hw]] at this
  exact this
theorem rdigits_n {k:Nat} (z:Int) (h:Sz k z) (hk:k≤400000) (w:World):
    Calls Tryz.prog 126 #[.string ⟨(Lib.decDigits z.natAbs).toArray⟩] w fun e w'=>e=.returned (.bool true)∧Gr w w':=
  rdigits_t _ (by have:=dec_len_sz h;omega) w
theorem rdigits_d {k:Nat} (d:Nat) (h:Sz k (d:Int)) (hk:k≤400000) (w:World):
    Calls Tryz.prog 126 #[.string ⟨(Lib.itoa (d:Int)).toArray⟩] w fun e w'=>e=.returned (.bool true)∧Gr w w':=by
  have:=rdigits_n (d:Int) h hk w
  rw [← itoa_nonneg (by omega)] at this
  exact this
theorem trim_zero_d {k:Nat} (d:Nat) (h:Sz k (d:Int)) (hd:0<d) (hk:k≤400000) (w:World):
    Calls Tryz.prog 128 #[.string ⟨(Lib.itoa (d:Int)).toArray⟩,.string ⟨#[48]⟩] w fun e w'=>(∃ L:List UInt8,e=.returned (.string ⟨L.toArray⟩)∧(L==[])=false)∧Gr w w':=by
  have:=trim_zero d hd (by have:=dec_len_sz h;rw [Int.natAbs_natCast] at this;omega) w
  rw [itoa_nonneg (by omega),Int.natAbs_natCast]
  refine this.mono ?_
  rintro e w1 ⟨⟨L,he,hL⟩,g⟩
  exact ⟨⟨L,he,beq_eq_false_iff_ne.2 hL⟩,g⟩
theorem isRat_parts {w:World} {k:Nat} {x y x2 y2:Value} {q:Rat} (h1:IsInt w k x y q.num) (h2:IsInt w k x2 y2 (q.den:Int)) (h3:64≤k):IsRat w k x y x2 y2 q:=⟨h1,⟨_,h2,.inl rfl⟩,h3⟩
theorem rat_coprime (q:Rat):(Int.gcd q.num (q.den:Int):Int)=1:=by
  have:=q.reduced
  show ((Nat.gcd q.num.natAbs (q.den:Int).natAbs:Nat):Int)=1
  rw [Int.natAbs_natCast]
  have h:Nat.gcd q.num.natAbs q.den=1:=this
  rw [h];rfl
set_option maxRecDepth 100000 in
set_option maxHeartbeats 1000000 in
theorem read_w {k:Nat} (q:Rat) (hq:Sz k q.num∧Sz k (q.den:Int)) (_hk:k≤20000) (h64:64≤k) (most:Int) (_hlong:((ratL q).length:Int)≤most) (w:World) (hm:Mx w) (hw:q.den=1):
    Calls Tryz.prog 99 #[(.string ⟨(ratL (q):List UInt8).toArray⟩),(.int .i64 (most))] w fun e w'=>(∃ c0 c1 c2 c3,e=.returned (.tuple #[.agg #[c0,c1,c2,c3],.int .i64 0])∧IsRat w' k c0 c1 c2 c3 q)∧Gr w w':=by
 have hl:decide (most<((ratL q).length:Int))=false:=by simp;omega
 go_enter Tryz.func99,Tryz.ntmps99
 have hB:=Gr.refl w
 refine wp_seq_k (fun K1 k1=>?_)
 refine rg [0,1] ?_
 refine se ?_
 refine ea 71 #[(.bool false),(.slice none 0 0),(.bool false),(.slice none 0 0)] 4 hB fun b2 w2 g2 L2 o2 q2 hB=>?_
 simp only [p3,p4]
 refine sv 5 (.int .i64 0) ?_
 refine sq_nil ?_
 refine k1 _ _ ?_
 try clear k1 K1
 refine wp_seq_k (fun K3 k3=>?_)
 refine rg [0,1] ?_
 refine sv 13 (.string ⟨(ratL (q):List UInt8).toArray⟩) ?_
 refine sv 6 (.string ⟨(ratL (q):List UInt8).toArray⟩) ?_
 refine sq_nil ?_
 refine k3 _ _ ?_
 try clear k3 K3
 refine wp_seq_k (fun K4 k4=>?_)
 refine rg [0,1,2,3,4,5,6,7,8] ?_
 refine sv 15 (.string ⟨(ratL (q):List UInt8).toArray⟩) ?_
 refine se ?_
 refine ec 16 (cut_w q hq.1 hq.2 (by omega) hw (hm.gr hB)) ?_
 rintro e5 w5 ⟨rfl,g5⟩
 refine ⟨_,rfl,?_⟩
 replace hB:=hB.trans g5
 simp only [p3,p4]
 refine sv 14 (.tuple #[(.string ⟨(Lib.itoa (q.num):List UInt8).toArray⟩),(.string ⟨([]:List UInt8).toArray⟩),(.bool false)]) ?_
 refine sv 17 (.string ⟨(Lib.itoa (q.num):List UInt8).toArray⟩) ?_
 refine sv 18 (.string ⟨([]:List UInt8).toArray⟩) ?_
 refine sv 19 (.bool false) ?_
 refine sv 7 (.string ⟨(Lib.itoa (q.num):List UInt8).toArray⟩) ?_
 refine sv 8 (.string ⟨([]:List UInt8).toArray⟩) ?_
 refine sv 9 (.bool false) ?_
 refine sq_nil ?_
 refine k4 _ _ ?_
 try clear k4 K4
 refine wp_seq_k (fun K6 k6=>?_)
 refine wp_block ?_
 refine wp_seq_k (fun K7 k7=>?_)
 refine rg [0,1,2,3,4] ?_
 refine sv 21 (.string ⟨(ratL (q):List UInt8).toArray⟩) ?_
 refine sv 22 (.int .i64 (((ratL (q)).length:Int))) ?_
 refine sv 23 (.int .i64 (most)) ?_
 refine sw 24 (.bool false) rfl (RunV.bool (x:=decide (most<((ratL (q)).length:Int))) (rvk (by kernel_rfl)) hl) ?_
 refine sv 20 (.bool false) ?_
 refine sq_nil ?_
 refine k7 _ _ ?_
 try clear k7 K7
 refine wp_cond_false rfl ?_
 refine wp_seq_k (fun K8 k8=>?_)
 refine rg [0,1,2,3,4,5,6,7,8,9,10,11,12] ?_
 refine sv 27 (.string ⟨(Lib.itoa (q.num):List UInt8).toArray⟩) ?_
 refine se ?_
 refine ec 28 (trimprefix_minus (q.num) _) ?_
 rintro e9 w9 ⟨rfl,g9⟩
 refine ⟨_,rfl,?_⟩
 replace hB:=hB.trans g9
 simp only [p3,p4]
 refine se ?_
 refine ec 29 (rdigits_n q.num hq.1 (by omega) _) ?_
 rintro e10 w10 ⟨rfl,g10⟩
 refine ⟨_,rfl,?_⟩
 replace hB:=hB.trans g10
 simp only [p3,p4]
 refine sv 30 (.bool false) ?_
 refine sv 31 (.bool false) ?_
 refine sv 32 (.bool false) ?_
 refine sv 33 (.bool false) ?_
 refine ss 34 ?_
 refine ss 35 ?_
 refine ss 36 ?_
 refine sv 37 (.bool false) ?_
 refine sv 38 (.bool false) ?_
 refine sv 26 (.bool false) ?_
 refine sq_nil ?_
 refine k8 _ _ ?_
 try clear k8 K8
 refine wp_cond_false rfl ?_
 refine wp_seq_k (fun K11 k11=>?_)
 refine rg [0,1,2,3,4,5,6] ?_
 refine sv 41 (.bool false) ?_
 refine sv 42 (.bool false) ?_
 refine ss 43 ?_
 refine ss 44 ?_
 refine ss 45 ?_
 refine sv 46 (.bool false) ?_
 refine sv 40 (.bool false) ?_
 refine sq_nil ?_
 refine k11 _ _ ?_
 try clear k11 K11
 refine wp_cond_false rfl ?_
 refine wp_skip ?_
 refine k6 _ _ ?_
 try clear k6 K6
 refine wp_seq_k (fun K12 k12=>?_)
 refine rg [0,1,2,3,4,5,6,7] ?_
 refine sv 49 (.string ⟨(Lib.itoa (q.num):List UInt8).toArray⟩) ?_
 refine se ?_
 refine ec 50 (parse_i (q.num) hq.1 (by omega) _) ?_
 rintro e13 w13 ⟨⟨x13,y13,rfl,h13⟩,g13⟩
 refine ⟨_,rfl,?_⟩
 replace hB:=hB.trans g13
 simp only [p3,p4]
 refine sv 48 (.tuple #[(.agg #[x13,y13]),(.int .i64 0)]) ?_
 refine sv 51 (.agg #[x13,y13]) ?_
 refine sv 52 (.int .i64 0) ?_
 refine se ?_
 refine ea 69 #[(.bool false),(.slice none 0 0)] 10 hB fun b14 w14 g14 L14 o14 q14 hB=>?_
 replace L2:=L2.gr (g5.trans (g9.trans (g10.trans g13)))
 have ne2_14:=L2.ne o14
 simp only [p3,p4]
 refine se ?_
 refine es 69 0 (.agg #[x13,y13]) [x13,y13] #[x13,y13] L14 hB q14 ⟨h13.one0,h13.one1,trivial⟩ fun w15 st15 kp15 L14 hB=>?_
 refine sv 11 (.int .i64 0) ?_
 refine sq_nil ?_
 refine k12 _ _ ?_
 try clear k12 K12
 refine wp_seq_k (fun K16 k16=>?_)
 refine wp_seq_k (fun K17 k17=>?_)
 refine rg [0,1] ?_
 refine sv 53 (.int .i64 0) ?_
 refine sv 54 (.bool false) ?_
 refine sq_nil ?_
 refine k17 _ _ ?_
 try clear k17 K17
 refine wp_cond_false rfl ?_
 refine wp_skip ?_
 refine k16 _ _ ?_
 try clear k16 K16
 refine wp_seq_k (fun K18 k18=>?_)
 refine wp_seq_k (fun K19 k19=>?_)
 refine rg [0,1] ?_
 refine sv 56 (.bool false) ?_
 refine sv 57 (.bool true) ?_
 refine sq_nil ?_
 refine k19 _ _ ?_
 try clear k19 K19
 refine wp_cond_true rfl ?_
 refine wp_seq_k (fun K20 k20=>?_)
 refine rg [0,1,2,3] ?_
 refine sw 58 (.agg #[x13,y13]) rfl (rl 69 0 [x13,y13] L14) ?_
 refine sv 59 (.agg #[x13,y13,(.bool false),(.slice none 0 0)]) ?_
 refine se ?_
 replace L2:=st15.lc (L2.gr g14) ne2_14
 refine es 71 0 (.agg #[x13,y13,(.bool false),(.slice none 0 0)]) [x13,y13,(.bool false),(.slice none 0 0)] #[x13,y13,(.bool false),(.slice none 0 0)] L2 hB q2 ⟨h13.one0,h13.one1,rfl,rfl,trivial⟩ fun w21 st21 kp21 L2 hB=>?_
 refine sv 5 (.int .i64 0) ?_
 refine sq_nil ?_
 refine k20 _ _ ?_
 try clear k20 K20
 refine wp_ret ?_
 simp only [Exit.then]
 refine bodyPost_ret (v:=(.tuple #[(.agg #[x13,y13,(.bool false),(.slice none 0 0)]),(.int .i64 0)])) (ret_cell_tmp' _ _ _ rfl rfl L2 (by kernel_rfl) rfl) rfl ⟨?_,hB⟩
 have kq22:=g14.kp.trans (kp15.trans kp21)
 replace h13:=h13.kp kq22
 exact ⟨_,_,_,_,rfl,by have:=IsRat.int h13 h64;rw [rat_int hw] at this;exact this⟩

set_option maxRecDepth 100000 in
set_option maxHeartbeats 1000000 in
theorem read_f {k:Nat} (q:Rat) (hq:Sz k q.num∧Sz k (q.den:Int)) (_hk:k≤20000) (h64:64≤k) (most:Int) (_hlong:((ratL q).length:Int)≤most) (w:World) (hm:Mx w) (hw:¬ q.den=1):
    Calls Tryz.prog 99 #[(.string ⟨(ratL (q):List UInt8).toArray⟩),(.int .i64 (most))] w fun e w'=>(∃ c0 c1 c2 c3,e=.returned (.tuple #[.agg #[c0,c1,c2,c3],.int .i64 0])∧IsRat w' k c0 c1 c2 c3 q)∧Gr w w':=by
 have hl:decide (most<((ratL q).length:Int))=false:=by simp;omega
 have h1:(sgn ((q.den:Int) - 1)==(0:Int))=false:=by rw [beq_eq_false_iff_ne];exact fun e=>hw (by have:=sgn_eq_zero.1 e;omega)
 have h2:(sgn ((Int.gcd (q.num) ((q.den:Int)):Int) - 1) !=(0:Int))=false:=by rw [rat_coprime];rfl
 go_enter Tryz.func99,Tryz.ntmps99
 have hB:=Gr.refl w
 refine wp_seq_k (fun K1 k1=>?_)
 refine rg [0,1] ?_
 refine se ?_
 refine ea 71 #[(.bool false),(.slice none 0 0),(.bool false),(.slice none 0 0)] 4 hB fun b2 w2 g2 L2 o2 q2 hB=>?_
 simp only [p3,p4]
 refine sv 5 (.int .i64 0) ?_
 refine sq_nil ?_
 refine k1 _ _ ?_
 try clear k1 K1
 refine wp_seq_k (fun K3 k3=>?_)
 refine rg [0,1] ?_
 refine sv 13 (.string ⟨(ratL (q):List UInt8).toArray⟩) ?_
 refine sv 6 (.string ⟨(ratL (q):List UInt8).toArray⟩) ?_
 refine sq_nil ?_
 refine k3 _ _ ?_
 try clear k3 K3
 refine wp_seq_k (fun K4 k4=>?_)
 refine rg [0,1,2,3,4,5,6,7,8] ?_
 refine sv 15 (.string ⟨(ratL (q):List UInt8).toArray⟩) ?_
 refine se ?_
 refine ec 16 (cut_f q hq.1 hq.2 (by omega) hw (hm.gr hB)) ?_
 rintro e5 w5 ⟨rfl,g5⟩
 refine ⟨_,rfl,?_⟩
 replace hB:=hB.trans g5
 simp only [p3,p4]
 refine sv 14 (.tuple #[(.string ⟨(Lib.itoa (q.num):List UInt8).toArray⟩),(.string ⟨(Lib.itoa ((q.den:Int)):List UInt8).toArray⟩),(.bool true)]) ?_
 refine sv 17 (.string ⟨(Lib.itoa (q.num):List UInt8).toArray⟩) ?_
 refine sv 18 (.string ⟨(Lib.itoa ((q.den:Int)):List UInt8).toArray⟩) ?_
 refine sv 19 (.bool true) ?_
 refine sv 7 (.string ⟨(Lib.itoa (q.num):List UInt8).toArray⟩) ?_
 refine sv 8 (.string ⟨(Lib.itoa ((q.den:Int)):List UInt8).toArray⟩) ?_
 refine sv 9 (.bool true) ?_
 refine sq_nil ?_
 refine k4 _ _ ?_
 try clear k4 K4
 refine wp_seq_k (fun K6 k6=>?_)
 refine wp_block ?_
 refine wp_seq_k (fun K7 k7=>?_)
 refine rg [0,1,2,3,4] ?_
 refine sv 21 (.string ⟨(ratL (q):List UInt8).toArray⟩) ?_
 refine sv 22 (.int .i64 (((ratL (q)).length:Int))) ?_
 refine sv 23 (.int .i64 (most)) ?_
 refine sw 24 (.bool false) rfl (RunV.bool (x:=decide (most<((ratL (q)).length:Int))) (rvk (by kernel_rfl)) hl) ?_
 refine sv 20 (.bool false) ?_
 refine sq_nil ?_
 refine k7 _ _ ?_
 try clear k7 K7
 refine wp_cond_false rfl ?_
 refine wp_seq_k (fun K8 k8=>?_)
 refine rg [0,1,2,3,4,5,6,7,8,9,10,11,12] ?_
 refine sv 27 (.string ⟨(Lib.itoa (q.num):List UInt8).toArray⟩) ?_
 refine se ?_
 refine ec 28 (trimprefix_minus (q.num) _) ?_
 rintro e9 w9 ⟨rfl,g9⟩
 refine ⟨_,rfl,?_⟩
 replace hB:=hB.trans g9
 simp only [p3,p4]
 refine se ?_
 refine ec 29 (rdigits_n q.num hq.1 (by omega) _) ?_
 rintro e10 w10 ⟨rfl,g10⟩
 refine ⟨_,rfl,?_⟩
 replace hB:=hB.trans g10
 simp only [p3,p4]
 refine sv 30 (.bool false) ?_
 refine sv 31 (.bool false) ?_
 refine sv 32 (.bool true) ?_
 refine sv 33 (.bool true) ?_
 refine sv 34 (.string ⟨(Lib.itoa ((q.den:Int)):List UInt8).toArray⟩) ?_
 refine se ?_
 refine ec 35 (rdigits_d q.den hq.2 (by omega) _) ?_
 rintro e11 w11 ⟨rfl,g11⟩
 refine ⟨_,rfl,?_⟩
 replace hB:=hB.trans g11
 simp only [p3,p4]
 refine sv 36 (.bool false) ?_
 refine sv 37 (.bool false) ?_
 refine sv 38 (.bool false) ?_
 refine sv 26 (.bool false) ?_
 refine sq_nil ?_
 refine k8 _ _ ?_
 try clear k8 K8
 refine wp_cond_false rfl ?_
 refine wp_seq_k (fun K12 k12=>?_)
 refine rg [0,1,2,3,4,5,6] ?_
 refine sv 41 (.bool true) ?_
 refine sv 42 (.bool true) ?_
 refine sv 43 (.string ⟨(Lib.itoa ((q.den:Int)):List UInt8).toArray⟩) ?_
 refine se ?_
 refine ec 44 (trim_zero_d q.den hq.2 q.den_pos (by omega) _) ?_
 rintro e13 w13 ⟨⟨L13,rfl,hL13⟩,g13⟩
 refine ⟨_,rfl,?_⟩
 replace hB:=hB.trans g13
 simp only [p3,p4]
 refine sw 45 (.bool false) rfl (RunV.bool (x:=((L13)==([]:List UInt8))) (rv_seq 9 9 _ _ (L13) ([]) rfl rfl rfl) hL13) ?_
 refine sv 46 (.bool false) ?_
 refine sv 40 (.bool false) ?_
 refine sq_nil ?_
 refine k12 _ _ ?_
 try clear k12 K12
 refine wp_cond_false rfl ?_
 refine wp_skip ?_
 refine k6 _ _ ?_
 try clear k6 K6
 refine wp_seq_k (fun K14 k14=>?_)
 refine rg [0,1,2,3,4,5,6,7] ?_
 refine sv 49 (.string ⟨(Lib.itoa (q.num):List UInt8).toArray⟩) ?_
 refine se ?_
 refine ec 50 (parse_i (q.num) hq.1 (by omega) _) ?_
 rintro e15 w15 ⟨⟨x15,y15,rfl,h15⟩,g15⟩
 refine ⟨_,rfl,?_⟩
 replace hB:=hB.trans g15
 simp only [p3,p4]
 refine sv 48 (.tuple #[(.agg #[x15,y15]),(.int .i64 0)]) ?_
 refine sv 51 (.agg #[x15,y15]) ?_
 refine sv 52 (.int .i64 0) ?_
 refine se ?_
 refine ea 69 #[(.bool false),(.slice none 0 0)] 10 hB fun b16 w16 g16 L16 o16 q16 hB=>?_
 replace L2:=L2.gr (g5.trans (g9.trans (g10.trans (g11.trans (g13.trans g15)))))
 have ne2_16:=L2.ne o16
 simp only [p3,p4]
 refine se ?_
 refine es 69 0 (.agg #[x15,y15]) [x15,y15] #[x15,y15] L16 hB q16 ⟨h15.one0,h15.one1,trivial⟩ fun w17 st17 kp17 L16 hB=>?_
 refine sv 11 (.int .i64 0) ?_
 refine sq_nil ?_
 refine k14 _ _ ?_
 try clear k14 K14
 refine wp_seq_k (fun K18 k18=>?_)
 refine wp_seq_k (fun K19 k19=>?_)
 refine rg [0,1] ?_
 refine sv 53 (.int .i64 0) ?_
 refine sv 54 (.bool false) ?_
 refine sq_nil ?_
 refine k19 _ _ ?_
 try clear k19 K19
 refine wp_cond_false rfl ?_
 refine wp_skip ?_
 refine k18 _ _ ?_
 try clear k18 K18
 refine wp_seq_k (fun K20 k20=>?_)
 refine wp_seq_k (fun K21 k21=>?_)
 refine rg [0,1] ?_
 refine sv 56 (.bool true) ?_
 refine sv 57 (.bool false) ?_
 refine sq_nil ?_
 refine k21 _ _ ?_
 try clear k21 K21
 refine wp_cond_false rfl ?_
 refine wp_skip ?_
 refine k20 _ _ ?_
 try clear k20 K20
 refine wp_seq_k (fun K22 k22=>?_)
 refine rg [0,1,2,3,4,5,6,7] ?_
 refine sv 61 (.string ⟨(Lib.itoa ((q.den:Int)):List UInt8).toArray⟩) ?_
 refine se ?_
 refine ec 62 (parse_i ((q.den:Int)) hq.2 (by omega) _) ?_
 rintro e23 w23 ⟨⟨x23,y23,rfl,h23⟩,g23⟩
 refine ⟨_,rfl,?_⟩
 replace hB:=hB.trans g23
 simp only [p3,p4]
 refine sv 60 (.tuple #[(.agg #[x23,y23]),(.int .i64 0)]) ?_
 refine sv 63 (.agg #[x23,y23]) ?_
 refine sv 64 (.int .i64 0) ?_
 refine se ?_
 refine ea 69 #[(.bool false),(.slice none 0 0)] 12 hB fun b24 w24 g24 L24 o24 q24 hB=>?_
 replace L2:=(st17.lc (L2.gr g16) ne2_16).gr g23
 have ne2_24:=L2.ne o24
 replace L16:=L16.gr g23
 have ne16_24:=L16.ne o24
 simp only [p3,p4]
 refine se ?_
 refine es 69 0 (.agg #[x23,y23]) [x23,y23] #[x23,y23] L24 hB q24 ⟨h23.one0,h23.one1,trivial⟩ fun w25 st25 kp25 L24 hB=>?_
 refine sv 11 (.int .i64 0) ?_
 refine sq_nil ?_
 refine k22 _ _ ?_
 try clear k22 K22
 refine wp_seq_k (fun K26 k26=>?_)
 refine wp_seq_k (fun K27 k27=>?_)
 have gd41:=Gr.drew w25
 replace hB:=hB.trans gd41
 replace L16:=(st25.lc (L16.gr g24) ne16_24).gr gd41
 replace L24:=L24.gr gd41
 refine wp_region_ord (fun w'=>Lc w' b16 #[x15,y15] 69∧Lc w' b24 #[x23,y23] 69) [(true,0),(true,1),(true,2),(true,3),(false,4),(false,5),(true,6),(true,7),(true,8),(true,9),(true,10),(false,11),(false,12),(false,13),(true,14),(true,15)] (by kernel_rfl) (by kernel_rfl) (by kernel_rfl) (by decide) (fun _ _ _ _ _ h=>h) ⟨L16,L24⟩ ?_
 refine ov 65 (.int .i64 0) ?_
 refine ov 66 (.bool false) ?_
 refine ov 67 (.bool false) ?_
 refine ow 68 (.agg #[x23,y23]) rfl (fun w' hS=>(rl 69 0 [x23,y23] hS.2)) ?_
 refine oe ?_
 refine ec 69 (one_i _) ?_
 rintro e43 w43 ⟨⟨x43,y43,rfl,h43⟩,g43⟩
 refine ⟨_,rfl,?_⟩
 replace hB:=hB.trans g43
 replace L16:=L16.gr g43
 replace L24:=L24.gr g43
 refine ⟨⟨L16,L24⟩,?_⟩
 simp only [p3,p4]
 refine oe ?_
 have kq46:=g24.kp.trans (kp25.trans (gd41.kp.trans g43.kp))
 replace h23:=h23.kp kq46
 refine ec 70 (compare_i h23 h43 (by omega) (by omega)) ?_
 rintro e45 w45 ⟨rfl,g45⟩
 refine ⟨_,rfl,?_⟩
 replace hB:=hB.trans g45
 replace L16:=L16.gr g45
 replace L24:=L24.gr g45
 refine ⟨⟨L16,L24⟩,?_⟩
 simp only [p3,p4]
 refine ow 71 (.bool false) rfl (fun w' hS=>(RunV.bool (x:=(sgn ((q.den:Int) - 1)==(0:Int))) (rvk (by kernel_rfl)) h1)) ?_
 refine ov 72 (.bool false) ?_
 refine ov 73 (.bool false) ?_
 refine ow 74 (.agg #[x15,y15]) rfl (fun w' hS=>(rl 69 0 [x15,y15] hS.1)) ?_
 refine ow 75 (.agg #[x23,y23]) rfl (fun w' hS=>(rl 69 0 [x23,y23] hS.2)) ?_
 refine oe ?_
 have kq49:=g16.kp.trans (kp17.trans (g23.kp.trans (g24.kp.trans (kp25.trans (gd41.kp.trans (g43.kp.trans g45.kp))))))
 replace h15:=h15.kp kq49
 replace h23:=h23.kp g45.kp
 refine ec 76 (gcd_i h15 h23 (by omega)) ?_
 rintro e48 w48 ⟨⟨x48,y48,rfl,h48⟩,g48⟩
 refine ⟨_,rfl,?_⟩
 replace hB:=hB.trans g48
 replace L16:=L16.gr g48
 replace L24:=L24.gr g48
 refine ⟨⟨L16,L24⟩,?_⟩
 simp only [p3,p4]
 refine oe ?_
 refine ec 77 (one_i _) ?_
 rintro e51 w51 ⟨⟨x51,y51,rfl,h51⟩,g51⟩
 refine ⟨_,rfl,?_⟩
 replace hB:=hB.trans g51
 replace L16:=L16.gr g51
 replace L24:=L24.gr g51
 refine ⟨⟨L16,L24⟩,?_⟩
 simp only [p3,p4]
 refine oe ?_
 replace h48:=h48.kp g51.kp
 refine ec 78 (compare_i h48 h51 (by omega) (by omega)) ?_
 rintro e53 w53 ⟨rfl,g53⟩
 refine ⟨_,rfl,?_⟩
 replace hB:=hB.trans g53
 replace L16:=L16.gr g53
 replace L24:=L24.gr g53
 refine ⟨⟨L16,L24⟩,?_⟩
 simp only [p3,p4]
 refine ow 79 (.bool false) rfl (fun w' hS=>(RunV.bool (x:=(sgn ((Int.gcd (q.num) ((q.den:Int)):Int) - 1) !=(0:Int))) (rvk (by kernel_rfl)) h2)) ?_
 refine ov 80 (.bool false) ?_
 refine ord_nil ?_
 refine k27 _ _ ?_
 try clear k27 K27
 refine wp_cond_false rfl ?_
 refine wp_skip ?_
 refine k26 _ _ ?_
 try clear k26 K26
 refine wp_seq_k (fun K54 k54=>?_)
 refine rg [0,1,2,3,4] ?_
 refine sw 82 (.agg #[x15,y15]) rfl (rl 69 0 [x15,y15] L16) ?_
 refine sw 83 (.agg #[x23,y23]) rfl (rl 69 0 [x23,y23] L24) ?_
 refine sv 84 (.agg #[x15,y15,x23,y23]) ?_
 refine se ?_
 replace L2:=(st25.lc (L2.gr g24) ne2_24).gr (gd41.trans (g43.trans (g45.trans (g48.trans (g51.trans g53)))))
 refine es 71 0 (.agg #[x15,y15,x23,y23]) [x15,y15,x23,y23] #[x15,y15,x23,y23] L2 hB q2 ⟨h15.one0,h15.one1,h23.one0,h23.one1,trivial⟩ fun w55 st55 kp55 L2 hB=>?_
 refine sv 5 (.int .i64 0) ?_
 refine sq_nil ?_
 refine k54 _ _ ?_
 try clear k54 K54
 refine wp_ret ?_
 refine bodyPost_ret (v:=(.tuple #[(.agg #[x15,y15,x23,y23]),(.int .i64 0)])) (ret_cell_tmp' _ _ _ rfl rfl L2 (by kernel_rfl) rfl) rfl ⟨?_,hB⟩
 have kq56:=g48.kp.trans (g51.kp.trans (g53.kp.trans kp55))
 replace h15:=h15.kp kq56
 replace h23:=h23.kp kq56
 exact ⟨_,_,_,_,rfl,isRat_parts h15 h23 h64⟩

theorem read_q {k:Nat} (q:Rat) (hq:Sz k q.num∧Sz k (q.den:Int)) (hk:k≤20000) (h64:64≤k) (most:Int) (hlong:((ratL q).length:Int)≤most) (w:World) (hm:Mx w):
    Calls Tryz.prog 99 #[(.string ⟨(ratL (q):List UInt8).toArray⟩),(.int .i64 (most))] w fun e w'=>(∃ c0 c1 c2 c3,e=.returned (.tuple #[.agg #[c0,c1,c2,c3],.int .i64 0])∧IsRat w' k c0 c1 c2 c3 q)∧Gr w w':=by
  by_cases hw:q.den=1
  · exact read_w q hq hk h64 most hlong w hm hw
  · exact read_f q hq hk h64 most hlong w hm hw

set_option maxRecDepth 100000 in
set_option maxHeartbeats 1000000 in
theorem parse_q {k:Nat} (q:Rat) (hq:Sz k q.num∧Sz k (q.den:Int)) (hk:k≤20000) (h64:64≤k) (_hlong:((ratL q).length:Int)≤400) (w:World) (hm:Mx w):
    Calls Tryz.prog 71 #[(.string ⟨(ratL (q):List UInt8).toArray⟩)] w fun e w'=>(∃ c0 c1 c2 c3,e=.returned (.tuple #[.agg #[c0,c1,c2,c3],.int .i64 0])∧IsRat w' k c0 c1 c2 c3 q)∧Gr w w':=by
 go_enter Tryz.func71,Tryz.ntmps71
 have hB:=Gr.refl w
 refine wp_seq_k (fun K1 k1=>?_)
 refine rg [0,1] ?_
 refine se ?_
 refine ea 71 #[(.bool false),(.slice none 0 0),(.bool false),(.slice none 0 0)] 2 hB fun b2 w2 g2 L2 o2 q2 hB=>?_
 simp only [p3,p4]
 refine sv 3 (.int .i64 0) ?_
 refine sq_nil ?_
 refine k1 _ _ ?_
 try clear k1 K1
 refine wp_seq_k (fun K3 k3=>?_)
 refine rg [0,1,2,3,4,5] ?_
 refine sv 4 (.string ⟨(ratL (q):List UInt8).toArray⟩) ?_
 refine se ?_
 refine ec 5 (read_q q hq hk h64 400 (by omega) _ (hm.gr hB)) ?_
 rintro e4 w4 ⟨⟨cc4_0,cc4_1,cc4_2,cc4_3,rfl,h4⟩,g4⟩
 refine ⟨_,rfl,?_⟩
 replace hB:=hB.trans g4
 simp only [p3,p4]
 refine sv 6 (.agg #[cc4_0,cc4_1,cc4_2,cc4_3]) ?_
 refine sv 7 (.int .i64 0) ?_
 refine se ?_
 replace L2:=L2.gr g4
 refine es 71 0 (.agg #[cc4_0,cc4_1,cc4_2,cc4_3]) [cc4_0,cc4_1,cc4_2,cc4_3] #[cc4_0,cc4_1,cc4_2,cc4_3] L2 hB q2 ⟨h4.one0,h4.one1,h4.one2,h4.one3,trivial⟩ fun w5 st5 kp5 L2 hB=>?_
 refine sv 3 (.int .i64 0) ?_
 refine sq_nil ?_
 refine k3 _ _ ?_
 try clear k3 K3
 refine wp_ret ?_
 refine bodyPost_ret (v:=(.tuple #[(.agg #[cc4_0,cc4_1,cc4_2,cc4_3]),(.int .i64 0)])) (ret_cell_tmp' _ _ _ rfl rfl L2 (by kernel_rfl) rfl) rfl ⟨?_,hB⟩
 replace h4:=h4.kp kp5
 exact ⟨_,_,_,_,rfl,h4⟩

set_option maxRecDepth 100000 in
set_option maxHeartbeats 1000000 in
theorem number_w {k:Nat} {u0 u1 u2 u3:Value} {a:Rat} {w:World} (ha:IsRat w k u0 u1 u2 u3 a) (_hk:k≤800000) (ht:Tab w) (hw:a.den=1):
    Calls Tryz.prog 40 #[(.agg #[u0,u1,u2,u3])] w fun e w'=>e=.returned (.string ⟨(ratL a).toArray⟩)∧Gr w w':=by
 go_enter Tryz.func40,Tryz.ntmps40
 have hB:=Gr.refl w
 refine wp_seq_k (fun K1 k1=>?_)
 refine rg [0,1] ?_
 refine se ?_
 refine eb 71 #[u0,u1,u2,u3] 1 hB fun b2 w2 g2 L2 o2 q2 hB=>?_
 simp only [p3,p4]
 refine sv 2 (.string ⟨([]:List UInt8).toArray⟩) ?_
 refine sq_nil ?_
 refine k1 _ _ ?_
 try clear k1 K1
 refine wp_seq_k (fun K3 k3=>?_)
 refine wp_seq_k (fun K4 k4=>?_)
 refine rg [0,1] ?_
 refine sw 3 (.agg #[u0,u1,u2,u3]) rfl (rl 71 0 [u0,u1,u2,u3] L2) ?_
 refine se ?_
 replace ha:=ha.kp g2.kp
 refine ec 4 (whole_t ha (by omega) hw) ?_
 rintro e5 w5 ⟨rfl,g5⟩
 refine ⟨_,rfl,?_⟩
 replace hB:=hB.trans g5
 simp only [p3,p4]
 refine sq_nil ?_
 refine k4 _ _ ?_
 try clear k4 K4
 refine wp_cond_true rfl ?_
 refine wp_seq_k (fun K6 k6=>?_)
 refine rg [0,1,2,3] ?_
 refine sv 5 (.pointer (some ⟨b2,0,none⟩)) ?_
 replace L2:=L2.gr g5
 refine sw 6 (.agg #[u0,u1]) rfl (rl 69 0 [u0,u1] L2) ?_
 refine se ?_
 replace ha:=ha.kp g5.kp
 refine ec 7 (text_i ha.num (by omega) (ht.gr hB)) ?_
 rintro e7 w7 ⟨rfl,g7⟩
 refine ⟨_,rfl,?_⟩
 replace hB:=hB.trans g7
 simp only [p3,p4]
 refine sv 2 (.string ⟨(Lib.itoa (a.num):List UInt8).toArray⟩) ?_
 refine sq_nil ?_
 refine k6 _ _ ?_
 try clear k6 K6
 refine wp_ret ?_
 simp only [Exit.then]
 refine bodyPost_ret (v:=(.string ⟨(Lib.itoa (a.num):List UInt8).toArray⟩)) (ret_tmp rfl rfl) rfl ⟨?_,hB⟩
 exact (by rw [ratL_w hw])

set_option maxRecDepth 100000 in
set_option maxHeartbeats 1000000 in
theorem number_d {k:Nat} {u0 u1 u2 u3:Value} {a:Rat} {w:World} (ha:IsRat w k u0 u1 u2 u3 a) (_hk:k≤800000) (ht:Tab w) (hd:IsInt w k u2 u3 (a.den:Int)) (hw:¬ a.den=1):
    Calls Tryz.prog 40 #[(.agg #[u0,u1,u2,u3])] w fun e w'=>e=.returned (.string ⟨(ratL a).toArray⟩)∧Gr w w':=by
 have hl1:=itoa_len ha.num.sz
 have hl2:=itoa_len hd.sz
 go_enter Tryz.func40,Tryz.ntmps40
 have hB:=Gr.refl w
 refine wp_seq_k (fun K1 k1=>?_)
 refine rg [0,1] ?_
 refine se ?_
 refine eb 71 #[u0,u1,u2,u3] 1 hB fun b2 w2 g2 L2 o2 q2 hB=>?_
 simp only [p3,p4]
 refine sv 2 (.string ⟨([]:List UInt8).toArray⟩) ?_
 refine sq_nil ?_
 refine k1 _ _ ?_
 try clear k1 K1
 refine wp_seq_k (fun K3 k3=>?_)
 refine wp_seq_k (fun K4 k4=>?_)
 refine rg [0,1] ?_
 refine sw 3 (.agg #[u0,u1,u2,u3]) rfl (rl 71 0 [u0,u1,u2,u3] L2) ?_
 refine se ?_
 replace ha:=ha.kp g2.kp
 refine ec 4 (whole_f ha (by omega) hw) ?_
 rintro e5 w5 ⟨rfl,g5⟩
 refine ⟨_,rfl,?_⟩
 replace hB:=hB.trans g5
 simp only [p3,p4]
 refine sq_nil ?_
 refine k4 _ _ ?_
 try clear k4 K4
 refine wp_cond_false rfl ?_
 refine wp_skip ?_
 refine k3 _ _ ?_
 try clear k3 K3
 refine wp_seq_k (fun K6 k6=>?_)
 have gd14:=Gr.drew w5
 replace hB:=hB.trans gd14
 replace L2:=L2.gr (g5.trans gd14)
 refine wp_region_ord (fun w'=>Lc w' b2 #[u0,u1,u2,u3] 71) [(true,0),(true,1),(true,4),(true,5),(false,2),(true,3),(false,6),(true,7),(true,8)] (by kernel_rfl) (by kernel_rfl) (by kernel_rfl) (by decide) (fun _ _ _ _ _ h=>h) L2 ?_
 refine ov 8 (.pointer (some ⟨b2,0,none⟩)) ?_
 refine ow 9 (.agg #[u0,u1]) rfl (fun w' hS=>(rl 69 0 [u0,u1] hS)) ?_
 refine ov 12 (.pointer (some ⟨b2,2,none⟩)) ?_
 refine ow 13 (.agg #[u2,u3]) rfl (fun w' hS=>(rl 69 2 [u2,u3] hS)) ?_
 refine oe ?_
 have kq17:=g5.kp.trans gd14.kp
 replace ha:=ha.kp kq17
 refine ec 10 (text_i ha.num (by omega) (ht.gr hB)) ?_
 rintro e16 w16 ⟨rfl,g16⟩
 refine ⟨_,rfl,?_⟩
 replace hB:=hB.trans g16
 replace L2:=L2.gr g16
 refine ⟨L2,?_⟩
 simp only [p3,p4]
 refine ow 11 (.string ⟨((Lib.itoa (a.num))++([47]):List UInt8).toArray⟩) rfl (fun w' hS=>(rv_cat 9 9 _ _ (Lib.itoa (a.num)) ([47]) rfl rfl rfl (by simp only [List.length_cons,List.length_nil];omega))) ?_
 refine oe ?_
 have kq20:=g2.kp.trans (g5.kp.trans (gd14.kp.trans g16.kp))
 replace hd:=hd.kp kq20
 refine ec 14 (text_i hd (by omega) (ht.gr hB)) ?_
 rintro e19 w19 ⟨rfl,g19⟩
 refine ⟨_,rfl,?_⟩
 replace hB:=hB.trans g19
 replace L2:=L2.gr g19
 refine ⟨L2,?_⟩
 simp only [p3,p4]
 refine ow 15 (.string ⟨(((Lib.itoa (a.num))++([47]))++(Lib.itoa ((a.den:Int))):List UInt8).toArray⟩) rfl (fun w' hS=>(rv_cat 9 9 _ _ ((Lib.itoa (a.num))++([47])) (Lib.itoa ((a.den:Int))) rfl rfl rfl (by simp only [List.length_append,List.length_cons,List.length_nil];omega))) ?_
 refine ov 2 (.string ⟨(((Lib.itoa (a.num))++([47]))++(Lib.itoa ((a.den:Int))):List UInt8).toArray⟩) ?_
 refine ord_nil ?_
 refine k6 _ _ ?_
 try clear k6 K6
 refine wp_ret ?_
 refine bodyPost_ret (v:=(.string ⟨(((Lib.itoa (a.num))++([47]))++(Lib.itoa ((a.den:Int))):List UInt8).toArray⟩)) (ret_tmp rfl rfl) rfl ⟨?_,hB⟩
 exact (by rw [ratL_f hw])

theorem number_r {k:Nat} {u0 u1 u2 u3:Value} {a:Rat} {w:World} (ha:IsRat w k u0 u1 u2 u3 a) (hk:k≤800000) (ht:Tab w):
    Calls Tryz.prog 40 #[.agg #[u0,u1,u2,u3]] w fun e w'=>e=.returned (.string ⟨(ratL a).toArray⟩)∧Gr w w':=by
  by_cases hw:a.den=1
  · exact number_w ha hk ht hw
  · obtain ⟨D,h2,h3⟩:=ha.den
    rcases h3 with h3 | ⟨_,h4⟩
    · subst h3;exact number_d ha hk ht h2 hw
    · exact absurd h4 hw

/-- both numbers of a short text are small -/
theorem ratL_sz (q:Rat) {m:Nat} (h:(ratL q).length≤m):Sz (4*m) q.num∧Sz (4*m) (q.den:Int):=by
  have h1:(Lib.itoa q.num).length≤m∧(q.den=1∨(Lib.itoa (q.den:Int)).length≤m):=by
    by_cases hw:q.den=1
    · rw [ratL_w hw] at h;exact ⟨h,.inl hw⟩
    · rw [ratL_f hw] at h
      simp only [List.length_append,List.length_cons,List.length_nil] at h
      exact ⟨by omega,.inr (by omega)⟩
  refine ⟨itoa_sz _ h1.1,?_⟩
  rcases h1.2 with e | e
  · rw [e]
    have:=itoa_pos q.num
    have:0<4*m:=by omega
    show (1:Nat)<2 ^ (4*m)
    exact Nat.one_lt_two_pow (by omega)
  · exact itoa_sz _ e
theorem RZ.s64 {q:Rat} (h:RZ 8 8 q):Sz 64 q.num∧Sz 64 (q.den:Int):=h.mono (by omega) (by omega)
/-- a pair:a small int,a byte -/
def EEn (_:World) (p:Int × Int) (vs:List Value):Prop:=vs=[.int .i8 p.1,.int .u8 p.2]∧(-128≤p.1∧p.1≤127)∧(0≤p.2∧p.2≤255)
theorem stab_en:Stab EEn []:=fun _ _ _ _ _ h=>h
section
variable {α β:Type} {E:World→α→List Value→Prop} {F:World→β→List Value→Prop} {T:TypeId} {c:Nat} {w:World} {v:Value} {xs:List α}
theorem list_tb (d:α) (xs:List α):xs=tb (fun i=>xs.getD i d) xs.length:=by
  apply List.ext_getElem?
  intro i
  by_cases h:i<xs.length
  · rw [tb_get h,List.getD_eq_getElem?_getD,List.getElem?_eq_getElem h];rfl
  · rw [List.getElem?_eq_none (by omega),List.getElem?_eq_none (by rw [tb_len];omega)]
end
section
variable {P:Program} {a:Act} {o:Oper} {w:World}
end
/-- the number of an entry;0 where one is missing -/
def en (e:Nat→Int × Int) (Z k:Nat):Rat:=if k<Z then (((e k).1:Int):Rat)/(((1+(e k).2 % 6:Int):Int):Rat) else (((0:Int):Int):Rat)/(((1:Int):Int):Rat)
theorem en_z {e:Nat→Int × Int} {Z k:Nat} (he:∀ k,k<Z→(-128≤(e k).1∧(e k).1≤127)∧(0≤(e k).2∧(e k).2≤255)):RZ 8 3 (en e Z k):=by
  unfold en
  split
  · next h=>
    have:=he k h
    rw [← Rat.divInt_eq_div]
    exact rz_divInt (by unfold Sz;omega) (by unfold Sz;omega) (by omega)
  · rw [← Rat.divInt_eq_div]
    exact rz_divInt (by unfold Sz;decide) (by unfold Sz;decide) (by decide)
end Go.Proofs.YtepgkcimmdmgcaaGreatDoor
namespace Go.Proofs.YtepgkcimmdmgcaaGreatDoor
theorem rz1:RZ 1 1 (1:Rat):=RZ.int (z:=1) (by unfold Sz;decide)
section
variable {R n N b P:Nat} {m:Mx_}
theorem rs_all (z:Bd) (hf:∀ i,i<R→∀ k,k<n→RZ z.a z.d (m i k)) (hs:∀ i,i<R→∀ k,n≤k→k<N→RZ z.A z.D (m i k)) (he:1≤z.e) (hn:n≤P∨R≤P) (hb:max (max (z.it P).a (z.it P).d) (max (max (z.it P).A (z.it P).D) (z.it P).e)≤b):∀ k,k≤n→RdZ R N b (rs R m k):=
  Bnd.all ⟨hf,hs,rz1.mono he he⟩ hn hb
/-- tables of small numbers -/
theorem rs_sm (hz:∀ i,i<R→∀ k,k<N→RZ 8 3 (m i k)) (hn:n≤5∨R≤5) (hN:n≤N):∀ k,k≤n→RdZ R N 4899 (rs R m k):=
  rs_all ⟨8,3,8,3,1⟩ (fun i hi k hk=>hz i hi k (by omega)) (fun i hi k _ hk=>hz i hi k hk) (Nat.le_refl _) hn (by decide)
end
/-! ### the columns without a pivot -/
section
variable {R n N f t k:Nat} {m:Mx_} {g:Nat→Rat}
end
/-! ### equations -/
section
variable {R N:Nat} {m:Mx_} {b x:Nat→Rat}
end
/-! ### inverses -/
section
variable {R:Nat} {m:Mx_}
theorem one_mul {R:Nat} {x:Nat→Rat} {i:Nat} (hi:i<R):sm R (fun k=>one_ i k*x k)=x i:=by
  rw [sm_one hi fun j _ hj=>by unfold one_;rw [if_neg (Ne.symm hj)];grind]
  unfold one_
  rw [if_pos rfl];grind
end
/-! ### reducing twice -/
section
variable {R N b:Nat} {m:Mx_}
end
/-! ### products -/
end Go.Proofs.YtepgkcimmdmgcaaGreatDoor
namespace Go.Proofs.YtepgkcimmdmgcaaGreatDoor
open Go.RowKit

set_option maxRecDepth 100000 in
set_option maxHeartbeats 1000000 in
theorem l5_numbers {R N:Nat} {v:Value} {nn:Nat→Nat→Int} (_hR:R≤1000) (_hN:N≤1000) (hb:∀ i,i<R→∀ j,j<N→-9223372036854775808≤nn i j∧nn i j≤9223372036854775807) {w:World} (hs:Sl (ERw EI64 3 1) 30 1 w v (tb (fun z0=>tb (fun z1=>(nn z0 z1)) N) R)):
    Calls Tryz.prog 50 #[v] w fun e w'=>(∃ u,e=.returned u∧Sl (ERw (ERat 64) 71 4) 49 1 w' u (tb (fun z0=>tb (fun z1=>((nn z0 z1:Int):Rat)) N) R))∧Gr w w':=by
 go_enter Tryz.func50,Tryz.ntmps50
 have hB:=Gr.refl w
 refine wp_seq_k (fun K10 k10=>?_)
 refine rg [0] ?_
 refine sv 2 (.slice none 0 0) ?_
 refine sq_nil ?_
 refine k10 _ _ ?_
 try clear k10 K10
 refine wp_seq_k (fun K11 k11=>?_)
 refine rg [0] ?_
 refine sv 3 (.slice none 0 0) ?_
 refine sq_nil ?_
 refine k11 _ _ ?_
 try clear k11 K11
 refine wp_seq_k (fun K12 k12=>?_)
 refine wp_seq_k (fun K13 k13=>?_)
 refine rg [0] ?_
 refine sv 4 (.int .i64 0) ?_
 refine sq_nil ?_
 refine k13 _ _ ?_
 try clear k13 K13
 refine wp_block ?_
 refine wp_loop_inv (a:=⟨List.toArray ?l14,[]⟩) (fun n a w'=>∃ (i:Nat) (vo:Value) (u14:Nat→Value),R - i=n∧a=⟨[v,undef,(.slice none 0 0),vo,(.int .i64 ((i:Int))),(u14 5),(u14 6),(u14 7),(u14 8),(u14 9),(u14 10),(u14 11),(u14 12),(u14 13),(u14 14),(u14 15),(u14 16),(u14 17),(u14 18),(u14 19),(u14 20),(u14 21),(u14 22),(u14 23),(u14 24),(u14 25),(u14 26),(u14 27),(u14 28),(u14 29),(u14 30),(u14 31),(u14 32),(u14 33),(u14 34),(u14 35),(u14 36),undef].toArray,[]⟩∧i≤R∧Ow (ERw (ERat 64) 71 4) 49 1 w' w.heap.size vo (tb (fun z0=>tb (fun z1=>((nn z0 z1:Int):Rat)) N) i)∧Gr w w') (R - 0) ?_ ?_
 ·exact ⟨0,(.slice none 0 0),(fun i=>List.getD ?l14 i undef),rfl,rfl,(Nat.zero_le _),(Ow.nil _ _ _ _ _),hB⟩
 rintro n14 a14 w14 ⟨i,vo,u14,rfl,rfl,hki,oo,hB⟩ K14 k14
 have lehC:=Below.size hB
 have hC:=Gr.refl w14
 refine wp_seq_k (fun K15 k15=>?_)
 refine wp_seq_k (fun K16 k16=>?_)
 refine rg [0,1,2,3] ?_
 refine sv 7 (.int .i64 ((i:Int))) ?_
 refine sv 8 v ?_
 refine sw 9 (.int .i64 ((R:Int))) rfl (rv_lenn (e:=30) hs (tb_lenz rfl) _ _ rfl rfl (by kernel_rfl)) ?_
 refine sv 10 (.bool (decide ((i:Int)<(R:Int)))) ?_
 refine sq_nil ?_
 refine k16 _ _ ?_
 try clear k16 K16
 refine wp_cond_split (t:=decide ((i:Int)<(R:Int))) rfl (fun hb17=>?_) (fun hb17=>?_)
 ·have hli:i<R:=by have:=of_decide_eq_true hb17;omega
  refine wp_skip ?_
  refine k15 _ _ ?_
  try clear k15 K15
  refine wp_seq_k (fun K18 k18=>?_)
  refine wp_block ?_
  refine wp_seq_k (fun K19 k19=>?_)
  refine rg [0] ?_
  refine sv 5 (.slice none 0 0) ?_
  refine sq_nil ?_
  refine k19 _ _ ?_
  try clear k19 K19
  refine wp_seq_k (fun K20 k20=>?_)
  refine wp_seq_k (fun K21 k21=>?_)
  refine rg [0] ?_
  refine sv 6 (.int .i64 0) ?_
  refine sq_nil ?_
  refine k21 _ _ ?_
  try clear k21 K21
  refine wp_block ?_
  refine wp_loop_inv (a:=⟨List.toArray ?l22,[]⟩) (fun n a w'=>∃ (j:Nat) (vi:Value) (u22:Nat→Value),N - j=n∧a=⟨[v,undef,(.slice none 0 0),vo,(.int .i64 ((i:Int))),vi,(.int .i64 ((j:Int))),(u22 7),(u22 8),(u22 9),(.bool (decide ((i:Int)<(R:Int)))),(u22 11),(u22 12),(u22 13),(u22 14),(u22 15),(u22 16),(u22 17),(u22 18),(u22 19),(u22 20),(u22 21),(u22 22),(u22 23),(u22 24),(u22 25),(u22 26),(u22 27),(u22 28),(u22 29),(u22 30),(u22 31),(u22 32),(u22 33),(u22 34),(u22 35),(u22 36),undef].toArray,[]⟩∧j≤N∧Ow (ERat 64) 71 4 w' w14.heap.size vi (tb (fun z1=>((nn i z1:Int):Rat)) j)∧Gr w14 w'∧Gr w w') (N - 0) ?_ ?_
  ·exact ⟨0,(.slice none 0 0),(fun i=>List.getD ?l22 i undef),rfl,rfl,(Nat.zero_le _),(Ow.nil _ _ _ _ _),hC,hB⟩
  rintro n22 a22 w22 ⟨j,vi,u22,rfl,rfl,hkj,oi,hC,hB⟩ K22 k22
  refine wp_seq_k (fun K23 k23=>?_)
  refine wp_seq_k (fun K24 k24=>?_)
  refine rg [0,1,2,3,4,5,6] ?_
  refine sv 13 (.int .i64 ((j:Int))) ?_
  refine sv 14 v ?_
  refine sv 15 (.int .i64 ((i:Int))) ?_
  refine sw 16 (adr v (i*1)) rfl (rv_idxn (e:=30) hs tb_len (by decide) i (by omega) _ _ _ rfl rfl rfl (by kernel_rfl) (by kernel_rfl)) ?_
  obtain ⟨_,_,⟨u25,rfl,hr25⟩,at25⟩:=Sl.get hs (by decide) (tb_get (f:=(fun z0=>tb (fun z1=>(nn z0 z1)) N)) (n:=R) (i:=i) (by omega))
  refine sw 17 u25 rfl (rv_ld1 u25 (at25.gr hB) _ _ rfl rfl (by kernel_rfl)) ?_
  refine sw 18 (.int .i64 ((N:Int))) rfl (rv_lenn (e:=3) hr25 (tb_lenz rfl) _ _ rfl rfl (by kernel_rfl)) ?_
  refine sv 19 (.bool (decide ((j:Int)<(N:Int)))) ?_
  refine sq_nil ?_
  refine k24 _ _ ?_
  try clear k24 K24
  refine wp_cond_split (t:=decide ((j:Int)<(N:Int))) rfl (fun hb26=>?_) (fun hb26=>?_)
  ·have hlj:j<N:=by have:=of_decide_eq_true hb26;omega
   refine wp_skip ?_
   refine k23 _ _ ?_
   try clear k23 K23
   refine wp_seq_k (fun K27 k27=>?_)
   refine wp_block ?_
   refine rg [0,1,2,3,4,5,6,7,8,9,10,11] ?_
   refine sv 22 vi ?_
   refine sv 23 v ?_
   refine sv 24 (.int .i64 ((i:Int))) ?_
   refine sw 25 (adr v (i*1)) rfl (rv_idxn (e:=30) hs tb_len (by decide) i (by omega) _ _ _ rfl rfl rfl (by kernel_rfl) (by kernel_rfl)) ?_
   refine sw 26 u25 rfl (rv_ld1 u25 (at25.gr hB) _ _ rfl rfl (by kernel_rfl)) ?_
   refine sv 27 (.int .i64 ((j:Int))) ?_
   refine sw 28 (adr u25 (j*1)) rfl (rv_idxn (e:=3) hr25 tb_len (by decide) j (by omega) _ _ _ rfl rfl rfl (by kernel_rfl) (by kernel_rfl)) ?_
   obtain ⟨_,_,rfl,at28⟩:=Sl.get hr25 (by decide) (tb_get (f:=(fun z1=>(nn i z1))) (n:=N) (i:=j) (by omega))
   refine sw 29 (.int .i64 ((nn i j))) rfl (rv_ld1 (.int .i64 ((nn i j))) (at28.gr hB) _ _ rfl rfl (by kernel_rfl)) ?_
   refine se ?_
   refine ec 30 (from_r ((nn i j)) (hb i hli j hlj).1 (hb i hli j hlj).2 _) ?_
   rintro e29 w29 ⟨⟨p29,q29,r29,s29,rfl,h29⟩,g29⟩
   refine ⟨_,rfl,?_⟩
   replace hB:=hB.trans g29
   replace hC:=hC.trans g29
   simp only [p3,p4]
   refine se ?_
   refine eff_bs 71 1 #[p29,q29,r29,s29] (some 31) rfl (fun _=>by kernel_rfl) (fun b30 w30 g30 L30 q30=>?_)
   have q30_hC:=Nat.le_trans (Below.size hC) q30
   replace hB:=hB.trans g30
   replace hC:=hC.trans g30
   simp only [putl,p3,p4]
   refine se ?_
   replace h29:=h29.kp g30.kp
   replace oi:=oi.gr (stab_rat 64) (g29.trans g30)
   refine eff_apg (stab_rat 64) _ _ 49 71 w14.heap.size (.agg #[(.bool false),(.slice none 0 0),(.bool false),(.slice none 0 0)]) vi (tb (fun z1=>((nn i z1:Int):Rat)) j) b30 [p29,q29,r29,s29] (((nn i j:Int):Rat)) 4 1 (some 32) 64 rfl rfl rfl rfl oi L30 ⟨h29.one0,h29.one1,h29.one2,h29.one3,trivial⟩ rfl ⟨_,_,_,_,rfl,h29.mono (by omega)⟩ (Below.size hC) (by rw [tb_len];omega) (by decide) (by kernel_rfl) (by kernel_rfl) (by decide) (by decide) (fun v31 w31 ow31 wt31 hg31=>?_)
   replace hB:=hg31 _ hB lehC
   replace hC:=hg31 _ hC (Nat.le_refl _)
   replace ow31:=ow31.cast (tb_snoc (f:=(fun z1=>((nn i z1:Int):Rat))) (n:=j) (by first | rfl | exact fil_all))
   simp only [putl,p3,p4]
   refine sv 5 v31 ?_
   refine sq_nil ?_
   refine k27 _ _ ?_
   try clear k27 K27
   refine rg [0,1,2] ?_
   refine sv 20 (.int .i64 ((j:Int))) ?_
   refine sw 21 (.int .i64 (((j:Int)+1))) rfl (RunV.int (x:=IntKind.i64.wrap (((j:Int)+1))) (y:=((j:Int)+1)) (rvk (by kernel_rfl)) (by first | rfl | (rw [IntKind.wrap_i64];omega))) ?_
   refine sv 6 (.int .i64 (((j:Int)+1))) ?_
   refine sq_nil ?_
   refine k22 (N - (j+1)) ⟨List.toArray ?l32,[]⟩ _ (by omega) ?_
   exact ⟨j+1,v31,(fun i=>List.getD ?l32 i undef),rfl,rfl,(by omega),ow31,hC,hB⟩
  ·have hej:N=j:=by have:=of_decide_eq_false hb26;omega
   subst hej
   refine wp_exit ?_
   simp only [Exit.then,Exit.inBlock,↓reduceIte]
   refine k20 _ _ ?_
   try clear k20 K20
   refine rg [0,1,2,3,4] ?_
   refine sv 33 vo ?_
   refine sv 34 vi ?_
   refine se ?_
   refine eff_bs1 29 49 vi (some 35) rfl rfl rfl (oi.sl).forms (fun _ _ _ _=>by kernel_rfl) (fun b33 w33 g33 L33 q33=>?_)
   have q33_hC:=Nat.le_trans (Below.size hC) q33
   replace hB:=hB.trans g33
   replace hC:=hC.trans g33
   simp only [putl,p3,p4]
   refine se ?_
   replace oi:=oi.gr (stab_rat 64) g33
   refine eff_apg (stab_rw (stab_rat 64) 71 4) _ _ 29 49 w.heap.size (.slice none 0 0) vo (tb (fun z0=>tb (fun z1=>((nn z0 z1:Int):Rat)) N) i) b33 [vi] (tb (fun z1=>((nn i z1:Int):Rat)) N) 1 1 (some 36) 24 rfl rfl rfl rfl (oo.gr (stab_rw (stab_rat 64) 71 4) hC) L33 ⟨oi.one,trivial⟩ rfl ⟨_,rfl,(oi.sl)⟩ (Below.size hB) (by rw [tb_len];omega) (by decide) (by kernel_rfl) (by kernel_rfl) (by decide) (by decide) (fun v34 w34 ow34 wt34 hg34=>?_)
   replace hB:=hg34 _ hB (Nat.le_refl _)
   replace ow34:=ow34.cast (tb_snoc (f:=(fun z0=>tb (fun z1=>((nn z0 z1:Int):Rat)) N)) (n:=i) (by first | rfl | exact fil_all))
   simp only [putl,p3,p4]
   refine sv 3 v34 ?_
   refine sq_nil ?_
   refine k18 _ _ ?_
   try clear k18 K18
   refine rg [0,1,2] ?_
   refine sv 11 (.int .i64 ((i:Int))) ?_
   refine sw 12 (.int .i64 (((i:Int)+1))) rfl (RunV.int (x:=IntKind.i64.wrap (((i:Int)+1))) (y:=((i:Int)+1)) (rvk (by kernel_rfl)) (by first | rfl | (rw [IntKind.wrap_i64];omega))) ?_
   refine sv 4 (.int .i64 (((i:Int)+1))) ?_
   refine sq_nil ?_
   refine k14 (R - (i+1)) ⟨List.toArray ?l35,[]⟩ _ (by omega) ?_
   exact ⟨i+1,v34,(fun i=>List.getD ?l35 i undef),rfl,rfl,(by omega),ow34,hB⟩
 ·have hei:R=i:=by have:=of_decide_eq_false hb17;omega
  subst hei
  refine wp_exit ?_
  simp only [Exit.then,Exit.inBlock,↓reduceIte]
  refine k12 _ _ ?_
  try clear k12 K12
  refine wp_seq_k (fun K36 k36=>?_)
  refine rg [0,1] ?_
  refine sv 37 vo ?_
  refine sv 2 vo ?_
  refine sq_nil ?_
  refine k36 _ _ ?_
  try clear k36 K36
  refine wp_ret ?_
  refine bodyPost_ret (v:=vo) (ret_tmp rfl rfl) rfl ⟨?_,hB⟩
  exact ⟨_,rfl,((oo.gr (stab_rw (stab_rat 64) 71 4) hC).sl)⟩

theorem all_succ3 {i:Nat} {p:Nat→Prop} (h:∀ t,t<i→p t) (hi:p i):∀ t,t<i+1→p t:=fun t ht=>by
  rcases Nat.lt_or_eq_of_le (Nat.le_of_lt_succ ht) with h1 | rfl
  · exact h t h1
  · exact hi
section
variable {α:Type} {E:World→α→List Value→Prop} {ts:List TypeId} {T c:Nat} {w w':World} {v:Value} {xs:List (List α)}
theorem Sl.esl_gr (hS:Stab E ts) (h:Sl (ESl E c) T 1 w v xs) (g:Gr w w'):Sl (ESl E c) T 1 w' v xs:=by
  obtain ⟨ys,h1,h2⟩:=h
  refine ⟨ys,h1.kt (g.kt T),h2.1,fun i x hx=>?_⟩
  obtain ⟨u,T2,e,hs⟩:=h2.2 i x hx
  exact ⟨u,T2,e,hs.gr hS g⟩
end
section
variable {w w':World} {x v:Value} {R N:Nat} {m:Mx_}
theorem en_zs {T Z:Nat} {ee:Nat→Int × Int} (h:Sl EEn T 2 w v (tb ee Z)) (k:Nat):RZ 8 3 (en ee Z k):=
  en_z fun j hj=>by
    obtain ⟨vs,_,h2,_⟩:=h.get (by decide) (tb_get (f:=ee) hj)
    exact h2.2
/-- a table that a law gets:how many rows and columns,which numbers -/
def TA (w:World) (x:Value) (R N:Nat) (m:Mx_):Prop:=
  ∃ (TQ Z cc:Nat) (v:Value) (ee:Nat→Nat→Int × Int) (zl:Nat→Nat),x=.agg #[.int .u8 (cc:Int),v]∧Sl (ESl EEn 2) TQ 1 w v (tb (fun z0=>tb (ee z0) (zl z0)) Z)∧cc≤255∧R=min Z 5∧N=(if R=0 then 0 else cc % 7)∧m=fun i k=>if i<R∧k<N then en (ee i) (zl i) k else 0
theorem TA.gr (h:TA w x R N m) (g:Gr w w'):TA w' x R N m:=by
  obtain ⟨TQ,Z,cc,v,ee,zl,h1,h2,h3⟩:=h
  exact ⟨TQ,Z,cc,v,ee,zl,h1,h2.esl_gr stab_en g,h3⟩
theorem TA.one0 {cc:Int} (h:TA w (.agg #[.int .u8 cc,v]) R N m):v.oneCell'=true:=by
  obtain ⟨_,_,_,v',_,_,h1,h2,_⟩:=h
  obtain rfl:v=v':=by simp at h1;exact h1.2
  exact h2.one
theorem TA.out (h:TA w x R N m) {i k:Nat} (hn:¬ (i<R∧k<N)):m i k=0:=by
  obtain ⟨_,_,_,_,_,_,_,_,_,_,_,rfl⟩:=h;exact if_neg hn
theorem TA.z (h:TA w x R N m) (i k:Nat):RZ 8 3 (m i k):=by
  by_cases hi:i<R∧k<N
  · obtain ⟨_,_,_,_,_,_,_,hs,_,h2,_,rfl⟩:=h
    simp only [if_pos hi]
    obtain ⟨_,_,hr,_⟩:=hs.get (by decide) (tb_get (i:=i) (by omega))
    obtain ⟨u,T2,_,h3⟩:=hr
    exact en_zs h3 k
  · rw [h.out hi];exact RZ.zero _ _ (by decide)
end
/-! ### a law's arguments -/
section
variable {w:World} {b T:Nat}
theorem els_i64 (w:World):∀ zs:List Int,Els EI64 1 w (zs.map fun z=>Value.int .i64 z) zs
  | []=>Els.nil ..
  | zs=>⟨by simp,fun i x hx=>by
      have hi:=(List.getElem?_eq_some_iff.1 hx).1
      have e:(zs.map fun z=>Value.int .i64 z)[i]?=some (.int .i64 x):=by rw [List.getElem?_map,hx];rfl
      show _=_
      obtain ⟨hl,hv⟩:=List.getElem?_eq_some_iff.1 e
      rw [Nat.mul_one,List.drop_eq_getElem_cons hl,hv];rfl⟩
theorem sl_i64 {us:Array Value} (h:Lc w b us T) (zs:List Int) (n:Nat) (hu:us=(zs.map fun z=>Value.int .i64 z).toArray) (hn:zs.length=n):Sl EI64 T 1 w (.slice (some ⟨b,0,none⟩) n n) zs:=by
  subst hu
  exact Mk.sl_n ⟨_,h,els_i64 w zs⟩ hn (Nat.le_refl _)
variable {α:Type} {E:World→α→List Value→Prop} {T2 c:Nat} {u v:Value} {x y:List α}
theorem sl_row1 (h:Lc w b #[u] T) (hu:Sl E T2 c w u x):Sl (ERw E T2 c) T 1 w (.slice (some ⟨b,0,none⟩) 1 1) [x]:=
  Mk.sl_n ⟨[u],h,(Els.nil _ _ _).snoc (x:=x) (vs:=[u]) rfl ⟨u,rfl,hu⟩⟩ rfl (Nat.le_refl _)
theorem sl_row2 (h:Lc w b #[u,v] T) (hu:Sl E T2 c w u x) (hv:Sl E T2 c w v y):Sl (ERw E T2 c) T 1 w (.slice (some ⟨b,0,none⟩) 2 2) [x,y]:=
  Mk.sl_n ⟨[u,v],h,((Els.nil _ _ _).snoc (x:=x) (vs:=[u]) rfl ⟨u,rfl,hu⟩).snoc (x:=y) (vs:=[v]) rfl ⟨v,rfl,hv⟩⟩ rfl (Nat.le_refl _)
end
/-- numbers of rows that are written out -/
def nl (L:List (List Int)) (i k:Nat):Int:=(L.getD i []).getD k 0
abbrev nq (L:List (List Int)):Mx_:=fun i k=>((nl L i k:Int):Rat)
theorem nl_s {L:List (List Int)} (h:(L.all fun l=>l.all fun z=>decide (z.natAbs<256))=true) (i k:Nat):(nl L i k).natAbs<256:=by
  unfold nl
  have e0:L.getD i []=L[i]?.getD []:=List.getD_eq_getElem?_getD ..
  rw [e0]
  cases e:L[i]? with
  | none=>simp
  | some l=>
    rw [Option.getD_some]
    cases e2:l[k]? with
    | none=>rw [List.getD_eq_getElem?_getD,e2];simp
    | some z=>
      rw [List.getD_eq_getElem?_getD,e2,Option.getD_some]
      have h1:=List.all_eq_true.1 h l (List.mem_of_getElem? e)
      have h2:=List.all_eq_true.1 h1 z (List.mem_of_getElem? e2)
      simpa using h2
theorem nl_b {L:List (List Int)} {R N:Nat} (h:(L.all fun l=>l.all fun z=>decide (z.natAbs<256))=true):∀ i,i<R→∀ k,k<N→-9223372036854775808≤nl L i k∧nl L i k≤9223372036854775807:=fun i _ k _=>by
  have:=nl_s h i k;omega
theorem nq_z {L:List (List Int)} {R N:Nat} (h:(L.all fun l=>l.all fun z=>decide (z.natAbs<256))=true):∀ i,i<R→∀ k,k<N→RZ 8 3 (nq L i k):=fun i _ k _=>by
  have hs:=nl_s h i k
  exact (RZ.int (a:=8) (by unfold Sz;omega)).mono (Nat.le_refl _) (by decide)
/-! ### numbers that may be longer -/
theorem Sl.rats {k K T c:Nat} {w:World} {v:Value} {xs:List Rat} (h:Sl (ERat k) T c w v xs) (hk:k≤K):Sl (ERat K) T c w v xs:=h.mono fun _ _ hx=>hx.mono hk
theorem Sl.ratrows {k K T c T2 c2:Nat} {w:World} {v:Value} {xs:List (List Rat)} (h:Sl (ERw (ERat k) T c) T2 c2 w v xs) (hk:k≤K):Sl (ERw (ERat K) T c) T2 c2 w v xs:=
  h.mono fun _ _ hx=>by
    obtain ⟨u,e,hs⟩:=hx
    exact ⟨u,e,hs.rats hk⟩
section
variable {w:World} {x:Value} {R N:Nat} {m:Mx_}
end
set_option maxRecDepth 100000 in
set_option maxHeartbeats 1000000 in
theorem l5_known (w:World) (_hm:Mx w) (ht:Tab w):
    Calls Tryz.prog 12 #[] w fun e w'=>e=.returned (.bool true)∧Gr w w':=by
 go_enter Tryz.func12,Tryz.ntmps12
 have hB:=Gr.refl w
 refine wp_seq_k (fun K10 k10=>?_)
 refine rg [0] ?_
 refine sv 0 (.bool false) ?_
 refine sq_nil ?_
 refine k10 _ _ ?_
 try clear k10 K10
 refine wp_seq_k (fun K11 k11=>?_)
 refine rg [0,1,2,3,4,5,6,7,8,9,10,11] ?_
 refine se ?_
 refine eff_bs 3 3 #[(.int .i64 2),(.int .i64 4),(.int .i64 6)] (some 9) rfl (fun _=>by kernel_rfl) (fun b12 w12 g12 L12 q12=>?_)
 replace hB:=hB.trans g12
 simp only [putl,p3,p4]
 refine se ?_
 refine eff_bs 3 3 #[(.int .i64 1),(.int .i64 2),(.int .i64 4)] (some 10) rfl (fun _=>by kernel_rfl) (fun b13 w13 g13 L13 q13=>?_)
 replace hB:=hB.trans g13
 simp only [putl,p3,p4]
 refine se ?_
 refine eff_bs 30 2 #[(.slice (some ⟨b12,0,none⟩) 3 3),(.slice (some ⟨b13,0,none⟩) 3 3)] (some 11) rfl (fun _=>by kernel_rfl) (fun b14 w14 g14 L14 q14=>?_)
 replace L12:=L12.gr g13
 replace hB:=hB.trans g14
 simp only [putl,p3,p4]
 refine se ?_
 replace L12:=L12.gr g14
 replace L13:=L13.gr g14
 refine ec 12 (l5_numbers (R:=2) (N:=3) (nn:=nl [[2,4,6],[1,2,4]]) (by decide) (by decide) (nl_b (by decide)) ((sl_row2 L14 (sl_i64 L12 [2,4,6] 3 rfl rfl) (sl_i64 L13 [1,2,4] 3 rfl rfl)).cast (show [[2,4,6],[1,2,4]]=tb (fun z0=>tb (fun z1=>nl [[2,4,6],[1,2,4]] z0 z1) 3) 2 from by kernel_rfl))) ?_
 rintro e15 w15 ⟨⟨u15,rfl,hs15⟩,g15⟩
 refine ⟨_,rfl,?_⟩
 replace hB:=hB.trans g15
 simp only [p3,p4]
 refine se ?_
 refine ec 13 (mx_Reduce (K:=4899) (m:=(nq [[2,4,6],[1,2,4]])) (fun h=>absurd h (by decide)) (by decide) (by decide) (by decide) (by decide) (rs_sm (nq_z (by decide)) (.inr (by decide)) (Nat.le_refl _)) (hs15.ratrows (by omega))) ?_
 rintro e16 w16 ⟨⟨u16,v16,rfl,hs16,hp16⟩,g16⟩
 refine ⟨_,rfl,?_⟩
 replace hB:=hB.trans g16
 replace hs16:=hs16.cast (show _=tb (fun z0=>tb (fun z1=>nq [[1,2,0],[0,0,1]] z0 z1) 3) 2 from by kernel_rfl)
 replace hp16:=hp16.cast (show _=tb (fun z1=>([0,2]:List Int).getD z1 0) 2 from by kernel_rfl)
 simp only [p3,p4]
 refine sv 8 (.tuple #[u16,v16,(.int .i64 0)]) ?_
 refine sv 14 u16 ?_
 refine sv 15 v16 ?_
 refine sv 16 (.int .i64 0) ?_
 refine sv 1 u16 ?_
 refine sv 2 v16 ?_
 refine sv 3 (.int .i64 0) ?_
 refine sq_nil ?_
 refine k11 _ _ ?_
 try clear k11 K11
 refine wp_seq_k (fun K17 k17=>?_)
 refine rg [0,1,2,3,4,5,6,7,8,9] ?_
 refine se ?_
 refine eff_bs 3 3 #[(.int .i64 2),(.int .i64 4),(.int .i64 6)] (some 18) rfl (fun _=>by kernel_rfl) (fun b18 w18 g18 L18 q18=>?_)
 replace hB:=hB.trans g18
 simp only [putl,p3,p4]
 refine se ?_
 refine eff_bs 3 3 #[(.int .i64 1),(.int .i64 2),(.int .i64 4)] (some 19) rfl (fun _=>by kernel_rfl) (fun b19 w19 g19 L19 q19=>?_)
 replace hB:=hB.trans g19
 simp only [putl,p3,p4]
 refine se ?_
 refine eff_bs 30 2 #[(.slice (some ⟨b18,0,none⟩) 3 3),(.slice (some ⟨b19,0,none⟩) 3 3)] (some 20) rfl (fun _=>by kernel_rfl) (fun b20 w20 g20 L20 q20=>?_)
 replace L18:=L18.gr g19
 replace hB:=hB.trans g20
 simp only [putl,p3,p4]
 refine se ?_
 replace L18:=L18.gr g20
 replace L19:=L19.gr g20
 refine ec 21 (l5_numbers (R:=2) (N:=3) (nn:=nl [[2,4,6],[1,2,4]]) (by decide) (by decide) (nl_b (by decide)) ((sl_row2 L20 (sl_i64 L18 [2,4,6] 3 rfl rfl) (sl_i64 L19 [1,2,4] 3 rfl rfl)).cast (show [[2,4,6],[1,2,4]]=tb (fun z0=>tb (fun z1=>nl [[2,4,6],[1,2,4]] z0 z1) 3) 2 from by kernel_rfl))) ?_
 rintro e21 w21 ⟨⟨u21,rfl,hs21⟩,g21⟩
 refine ⟨_,rfl,?_⟩
 replace hB:=hB.trans g21
 simp only [p3,p4]
 refine se ?_
 refine ec 22 (mx_Kernel (K:=4899) (D:=3) (m:=nq [[2,4,6],[1,2,4]]) (by decide) (by decide) (by decide) (by decide) (rs_sm (nq_z (by decide)) (.inr (by decide)) (Nat.le_refl _)) (hs21.ratrows (by omega))) ?_
 rintro e22 w22 ⟨⟨u22,rfl,hs22⟩,g22⟩
 refine ⟨_,rfl,?_⟩
 replace hB:=hB.trans g22
 replace hs22:=hs22.cast (show _=tb (fun z0=>tb (fun z1=>nq [[-2,1,0]] z0 z1) 3) 1 from by kernel_rfl)
 simp only [p3,p4]
 refine sv 17 (.tuple #[u22,(.int .i64 0)]) ?_
 refine sv 23 u22 ?_
 refine sv 24 (.int .i64 0) ?_
 refine sv 4 u22 ?_
 refine sv 5 (.int .i64 0) ?_
 refine sq_nil ?_
 refine k17 _ _ ?_
 try clear k17 K17
 refine wp_seq_k (fun K23 k23=>?_)
 have lehC:=Below.size hB
 have hC:=Gr.refl w22
 replace hs15:=hs15.gr (stab_rw (stab_rat 64) 71 4) (g16.trans (g18.trans (g19.trans (g20.trans (g21.trans g22)))))
 replace hs16:=hs16.gr (stab_rw (stab_rat 4899) 71 4) (g18.trans (g19.trans (g20.trans (g21.trans g22))))
 replace hp16:=hp16.gr stab_i64 (g18.trans (g19.trans (g20.trans (g21.trans g22))))
 replace hs21:=hs21.gr (stab_rw (stab_rat 64) 71 4) g22
 refine rg [0,1,2,3,4,5,6,7,8,9,10] ?_
 refine se ?_
 refine eff_bs 3 2 #[(.int .i64 1),(.int .i64 2)] (some 26) rfl (fun _=>by kernel_rfl) (fun b24 w24 g24 L24 q24=>?_)
 have q24_hC:=Nat.le_trans (Below.size hC) q24
 replace hB:=hB.trans g24
 replace hC:=hC.trans g24
 simp only [putl,p3,p4]
 refine se ?_
 refine eff_bs 3 2 #[(.int .i64 3),(.int .i64 4)] (some 27) rfl (fun _=>by kernel_rfl) (fun b25 w25 g25 L25 q25=>?_)
 have q25_hC:=Nat.le_trans (Below.size hC) q25
 replace hB:=hB.trans g25
 replace hC:=hC.trans g25
 simp only [putl,p3,p4]
 refine se ?_
 refine eff_bs 30 2 #[(.slice (some ⟨b24,0,none⟩) 2 2),(.slice (some ⟨b25,0,none⟩) 2 2)] (some 28) rfl (fun _=>by kernel_rfl) (fun b26 w26 g26 L26 q26=>?_)
 replace L24:=L24.gr g25
 have q26_hC:=Nat.le_trans (Below.size hC) q26
 replace hB:=hB.trans g26
 replace hC:=hC.trans g26
 simp only [putl,p3,p4]
 refine se ?_
 replace L24:=L24.gr g26
 replace L25:=L25.gr g26
 refine ec 29 (l5_numbers (R:=2) (N:=2) (nn:=nl [[1,2],[3,4]]) (by decide) (by decide) (nl_b (by decide)) ((sl_row2 L26 (sl_i64 L24 [1,2] 2 rfl rfl) (sl_i64 L25 [3,4] 2 rfl rfl)).cast (show [[1,2],[3,4]]=tb (fun z0=>tb (fun z1=>nl [[1,2],[3,4]] z0 z1) 2) 2 from by kernel_rfl))) ?_
 rintro e27 w27 ⟨⟨u27,rfl,hs27⟩,g27⟩
 refine ⟨_,rfl,?_⟩
 replace hB:=hB.trans g27
 replace hC:=hC.trans g27
 simp only [p3,p4]
 refine se ?_
 refine ec 30 (mx_Determinant (K:=4899) (m:=nq [[1,2],[3,4]]) (by decide) (by decide) (by decide) (rs_sm (nq_z (by decide)) (.inr (by decide)) (Nat.le_refl _)) (hs27.ratrows (by omega))) ?_
 rintro e28 w28 ⟨⟨p28,q28,r28,s28,rfl,h28⟩,g28⟩
 refine ⟨_,rfl,?_⟩
 replace hB:=hB.trans g28
 replace hC:=hC.trans g28
 replace h28:=h28.castq (show _=(-2:Rat) from by kernel_rfl)
 simp only [p3,p4]
 refine sv 25 (.tuple #[(.agg #[p28,q28,r28,s28]),(.int .i64 0)]) ?_
 refine sv 31 (.agg #[p28,q28,r28,s28]) ?_
 refine sv 32 (.int .i64 0) ?_
 refine se ?_
 refine ea 71 #[(.bool false),(.slice none 0 0),(.bool false),(.slice none 0 0)] 6 hB fun b29 w29 g29 L29 o29 q29 hB=>?_
 have q29_hC:=Nat.le_trans (Below.size hC) o29
 replace hC:=hC.trans g29
 simp only [p3,p4]
 refine se ?_
 have lo30:=L29
 refine es 71 0 (.agg #[p28,q28,r28,s28]) [p28,q28,r28,s28] #[p28,q28,r28,s28] L29 hB q29 ⟨h28.one0,h28.one1,h28.one2,h28.one3,trivial⟩ fun w30 st30 kp30 L29 hB=>?_
 replace hC:=st30.gr hC q29_hC
 refine sv 7 (.int .i64 0) ?_
 refine sq_nil ?_
 refine k23 _ _ ?_
 try clear k23 K23
 refine wp_seq_k (fun K31 k31=>?_)
 refine rg [0,1,2,3,4,5,6,7,8,9,10,11,12,13,14,15,16,17,18,19,20,21,22,23,24,25,26,27,28,29,30,31,32,33,34,35,36,37,38,39,40,41,42,43,44,45,46,47] ?_
 refine sv 33 u16 ?_
 refine se ?_
 refine eff_bs 3 3 #[(.int .i64 1),(.int .i64 2),(.int .i64 0)] (some 34) rfl (fun _=>by kernel_rfl) (fun b32 w32 g32 L32 q32=>?_)
 have q32_hC:=Nat.le_trans (Below.size hC) q32
 replace hB:=hB.trans g32
 replace hC:=hC.trans g32
 simp only [putl,p3,p4]
 refine se ?_
 refine eff_bs 3 3 #[(.int .i64 0),(.int .i64 0),(.int .i64 1)] (some 35) rfl (fun _=>by kernel_rfl) (fun b33 w33 g33 L33 q33=>?_)
 replace L29:=L29.gr g32
 have q33_hC:=Nat.le_trans (Below.size hC) q33
 replace hB:=hB.trans g33
 replace hC:=hC.trans g33
 simp only [putl,p3,p4]
 refine se ?_
 refine eff_bs 30 2 #[(.slice (some ⟨b32,0,none⟩) 3 3),(.slice (some ⟨b33,0,none⟩) 3 3)] (some 36) rfl (fun _=>by kernel_rfl) (fun b34 w34 g34 L34 q34=>?_)
 replace L29:=L29.gr g33
 replace L32:=L32.gr g33
 have q34_hC:=Nat.le_trans (Below.size hC) q34
 replace hB:=hB.trans g34
 replace hC:=hC.trans g34
 simp only [putl,p3,p4]
 refine se ?_
 replace L32:=L32.gr g34
 replace L33:=L33.gr g34
 refine ec 37 (l5_numbers (R:=2) (N:=3) (nn:=nl [[1,2,0],[0,0,1]]) (by decide) (by decide) (nl_b (by decide)) ((sl_row2 L34 (sl_i64 L32 [1,2,0] 3 rfl rfl) (sl_i64 L33 [0,0,1] 3 rfl rfl)).cast (show [[1,2,0],[0,0,1]]=tb (fun z0=>tb (fun z1=>nl [[1,2,0],[0,0,1]] z0 z1) 3) 2 from by kernel_rfl))) ?_
 rintro e35 w35 ⟨⟨u35,rfl,hs35⟩,g35⟩
 refine ⟨_,rfl,?_⟩
 replace hB:=hB.trans g35
 replace hC:=hC.trans g35
 simp only [p3,p4]
 refine se ?_
 refine ec 38 (mx_Equal (by omega) (by omega) (by omega) (hs16.gr (stab_rw (stab_rat 4899) 71 4) hC) hs35) ?_
 rintro e36 w36 ⟨rfl,g36⟩
 refine ⟨_,rfl,?_⟩
 replace hB:=hB.trans g36
 replace hC:=hC.trans g36
 simp only [p3,p4]
 refine sv 39 (.bool true) ?_
 refine sv 40 v16 ?_
 refine sw 41 (.int .i64 2) rfl (rv_lenn (e:=3) hp16 (tb_lenz rfl) _ _ rfl rfl (by kernel_rfl)) ?_
 refine sv 42 (.bool true) ?_
 refine sv 43 (.bool true) ?_
 refine sv 44 (.bool true) ?_
 refine sv 45 v16 ?_
 refine sw 46 (adr v16 (0*1)) rfl (rv_idxn (e:=3) hp16 tb_len (by decide) 0 (by omega) _ _ _ rfl rfl rfl (by kernel_rfl) (by kernel_rfl)) ?_
 obtain ⟨_,_,rfl,at37⟩:=Sl.get hp16 (by decide) (tb_get (f:=(fun z1=>([0,2]:List Int).getD z1 0)) (n:=2) (i:=0) (by omega))
 refine sw 47 (.int .i64 0) rfl (rv_ld1 (.int .i64 0) (at37.gr hC) _ _ rfl rfl (by kernel_rfl)) ?_
 refine sv 48 (.bool true) ?_
 refine sv 49 (.bool true) ?_
 refine sv 50 (.bool true) ?_
 refine sv 51 v16 ?_
 refine sw 52 (adr v16 (1*1)) rfl (rv_idxn (e:=3) hp16 tb_len (by decide) 1 (by omega) _ _ _ rfl rfl rfl (by kernel_rfl) (by kernel_rfl)) ?_
 obtain ⟨_,_,rfl,at38⟩:=Sl.get hp16 (by decide) (tb_get (f:=(fun z1=>([0,2]:List Int).getD z1 0)) (n:=2) (i:=1) (by omega))
 refine sw 53 (.int .i64 2) rfl (rv_ld1 (.int .i64 2) (at38.gr hC) _ _ rfl rfl (by kernel_rfl)) ?_
 refine sv 54 (.bool true) ?_
 refine sv 55 (.bool true) ?_
 refine sv 56 (.bool true) ?_
 refine sv 57 (.int .i64 0) ?_
 refine sv 58 (.bool true) ?_
 refine sv 59 (.bool true) ?_
 refine sv 60 (.bool true) ?_
 refine sv 61 u22 ?_
 refine se ?_
 refine eff_bs 3 3 #[(.int .i64 (-2)),(.int .i64 1),(.int .i64 0)] (some 62) rfl (fun _=>by kernel_rfl) (fun b39 w39 g39 L39 q39=>?_)
 replace L29:=L29.gr (g34.trans (g35.trans g36))
 have q39_hC:=Nat.le_trans (Below.size hC) q39
 replace hB:=hB.trans g39
 replace hC:=hC.trans g39
 simp only [putl,p3,p4]
 refine se ?_
 refine eff_bs 30 1 #[(.slice (some ⟨b39,0,none⟩) 3 3)] (some 63) rfl (fun _=>by kernel_rfl) (fun b40 w40 g40 L40 q40=>?_)
 replace L29:=L29.gr g39
 have q40_hC:=Nat.le_trans (Below.size hC) q40
 replace hB:=hB.trans g40
 replace hC:=hC.trans g40
 simp only [putl,p3,p4]
 refine se ?_
 replace L39:=L39.gr g40
 refine ec 64 (l5_numbers (R:=1) (N:=3) (nn:=nl [[-2,1,0]]) (by decide) (by decide) (nl_b (by decide)) ((sl_row1 L40 (sl_i64 L39 [-2,1,0] 3 rfl rfl)).cast (show [[-2,1,0]]=tb (fun z0=>tb (fun z1=>nl [[-2,1,0]] z0 z1) 3) 1 from by kernel_rfl))) ?_
 rintro e41 w41 ⟨⟨u41,rfl,hs41⟩,g41⟩
 refine ⟨_,rfl,?_⟩
 replace hB:=hB.trans g41
 replace hC:=hC.trans g41
 simp only [p3,p4]
 refine se ?_
 refine ec 65 (mx_Equal (by omega) (by omega) (by omega) (hs22.gr (stab_rw (stab_rat 4899) 71 4) hC) hs41) ?_
 rintro e42 w42 ⟨rfl,g42⟩
 refine ⟨_,rfl,?_⟩
 replace hB:=hB.trans g42
 replace hC:=hC.trans g42
 simp only [p3,p4]
 refine sv 66 (.bool true) ?_
 refine sv 67 (.bool true) ?_
 refine sv 68 (.int .i64 0) ?_
 refine sv 69 (.bool true) ?_
 refine sv 70 (.bool true) ?_
 refine sv 71 (.bool true) ?_
 replace L29:=L29.gr (g40.trans (g41.trans g42))
 refine sw 72 (.agg #[p28,q28,r28,s28]) rfl (rl 71 0 [p28,q28,r28,s28] L29) ?_
 refine se ?_
 have kq44:=g29.kp.trans (kp30.trans (g32.kp.trans (g33.kp.trans (g34.kp.trans (g35.kp.trans (g36.kp.trans (g39.kp.trans (g40.kp.trans (g41.kp.trans g42.kp)))))))))
 replace h28:=h28.kp kq44
 refine ec 73 (number_r h28 (by omega) (ht.gr hB)) ?_
 rintro e43 w43 ⟨rfl,g43⟩
 refine ⟨_,rfl,?_⟩
 replace hB:=hB.trans g43
 replace hC:=hC.trans g43
 simp only [p3,p4]
 have hb45:(((ratL (-2:Rat))==([45,50]:List UInt8)))=true:=(by decide+kernel)
 refine sw 74 (.bool true) rfl (RunV.bool (x:=((ratL (-2:Rat))==([45,50]:List UInt8))) (rv_seq 61 61 _ _ (ratL (-2:Rat)) ([45,50]) rfl rfl rfl) hb45) ?_
 refine sv 75 (.bool true) ?_
 refine sv 76 (.bool true) ?_
 refine sv 77 (.int .i64 0) ?_
 refine sv 78 (.bool true) ?_
 refine sv 79 (.bool true) ?_
 refine sv 0 (.bool true) ?_
 refine sq_nil ?_
 refine k31 _ _ ?_
 try clear k31 K31
 refine wp_ret ?_
 refine bodyPost_ret (v:=(.bool true)) (ret_tmp rfl rfl) rfl ⟨?_,hB⟩
 exact rfl

end Go.Proofs.YtepgkcimmdmgcaaGreatDoor
