/- Joined of: R1g, R1h, Ck, R1i, Ck2, Gen3, Rat1, Gen4, Str, Txt, Gen12, Nbr, R2a, R2b, R2c, R2d, R2e, Scale, Pa1, Pa2, Gen31, Gen35, Gen32. -/
import Derived.Test.YtaldbfflkpgfoaaGreatDoorPartB
import Init.Data.Rat.Lemmas
import Derived.Test.YtaldbfflkpgfoaaGreatDoorPartA
import Derived.Lib.SmallJoins
import Derived.Laws.RangeString
/- The reference of layer 1:the quotient and the rest. -/
namespace Go.Proofs.YtaldbfflkpgfoaaGreatDoor
open Go.RowKit

/-- append of a slice that reads as integers -/
theorem wpList_appR {P:Program} {ops:Array Oper} {rest:List Oper} {o:Oper} {a:Act} {w:World} {Q:Exit→Act→World→Prop} (hgd:o.guard=none) (s x:Operand) (t:TypeId)
    (ho:o.op=.call {callee:=.builtin .append,args:=#[s,x],argTypes:=#[t,t]}) (B:Nat) (v:Value) (ys:List Value) (hs:a.eval s=v) (hown:OwnS w 3 B v ys)
    (ao:Option Addr) (len cap:Nat) (d:Nat→Int) (hx:a.eval x=.slice ao len cap) (hr:DRow w ao len d) (hn:ys.length+len≤1000000)
    (ht:P.underlying t=some (.slice 3)) (hi:(P.info? 3).map (fun i=>(i.zero,i.size,i.bytes))=some (some (.int .i64 0),1,8)) (hBw:B≤w.heap.size)
    (h:∀ v' w',OwnS w' 3 B v' (ys++dvals .i64 len d)→Below B w w'→wpList P ops Q rest (a.put o.dst v') w'):wpList P ops Q (o::rest) a w:=by
  obtain ⟨i,hi,hz,hsize,hby⟩:=info_parts hi
  have hfin:∀ v' w',w'.ownsRow B 3 1 v' (ys.length+len) (ys++dvals .i64 len d)→w.grownBy w' v.ownBlock→wpList P ops Q rest (a.put o.dst v') w':=by
    intro v' w' h2 hg
    have hnew:∀ k,v.ownBlock=some k→B≤k:=by
      intro k hk
      rcases hown.2 with ⟨rfl,_⟩ | ⟨g,cap,cur,rfl,hb,hgg,_⟩
      · simp [Value.ownBlock] at hk
      · simp [Value.ownBlock] at hk
        subst hk;exact hb
    refine h v' w' ?_ ⟨hg.os,hg.tape,hg.output,hg.size,fun k hk=>hg.block k (by omega) (fun e=>?_)⟩
    · unfold OwnS;simpa [dvals_length] using h2
    · have:=hnew k e.symm;omega
  have hone:∀ u ∈ dvals .i64 len d,u.oneCell'=true:=fun u hu=>by
    simp only [dvals,List.mem_map] at hu
    obtain ⟨_,_,rfl⟩:=hu;rfl
  cases ao with
  | none=>
    have h0:len=0:=by
      rcases Nat.eq_zero_or_pos len with e | e
      · exact e
      · obtain ⟨b,off,e',_⟩:=hr.at_ e;cases e'
    subst h0
    refine wpList_plain hgd fun K hK=>?_
    have hrun:∀ ty,(Builtin.append_ #[t,t] ty #[v,.slice none 0 cap]).run P w=.ok v w:=fun ty=>by
      have aa:=hown.2
      rcases aa with ⟨rfl,h1⟩ | ⟨g,c1,c2,rfl,_,_,h1,_⟩
      · simp [Builtin.append_,Builtin.firstCells,Builtin.lenOf,run_underlying ht,sizeOf,typeInfo,hi]
      · simp [Builtin.append_,Builtin.firstCells,Builtin.lenOf,run_underlying ht,sizeOf,typeInfo,hi,storeCells,h1]
    unfold Oper.wp
    simp [execOp,ho,resolve,invoke,builtin,hs,hx,hrun,Result.andThen]
    exact hK _ _ (hfin v w (show w.ownsRow B 3 1 v (ys.length+0) (ys++[]) by rw [Nat.add_zero,List.append_nil];exact hown) (World.grownBy.refl w _))
  | some ad=>
    refine wpList_append_own w hgd s x t ho B 3 i _ 1 8 ht hi hz hsize hby rfl (by omega) v ys.length ys hs hown ad len cap (dvals .i64 len d) hx (by simp [dvals_length]) (fun j u hj=>?_) hone (by unfold maxLen;omega) (by omega) hBw (fun v' w' h2 hg _=>hfin v' w' h2 hg)
    have hj':j<len:=by have:=(List.getElem?_eq_some_iff.1 hj).1;simpa [dvals_length] using this
    obtain ⟨b,off,e,hc⟩:=hr.at_ (by omega)
    obtain rfl:=Option.some.inj e
    rw [dvals_get _ _ hj'] at hj
    obtain rfl:=Option.some.inj hj
    have e0:(⟨b,off,none⟩:Addr).add j=⟨b,off+j,none⟩:=by
      unfold Addr.add
      by_cases h0:j=0<;>simp [h0]
    rw [e0];exact hc j hj'
theorem own_lit (w:World) (T:TypeId) (u:Value):OwnS (w.alloc (.cells #[u] T)) T w.heap.size (.slice (some ⟨w.heap.size,0,none⟩) 1 1) [u]:=
  ⟨rfl,.inr ⟨w.heap.size,1,#[u],rfl,Nat.le_refl _,heap_alloc_new _ _,Nat.le_refl _,by unfold maxLen;omega,rfl,rfl⟩⟩
theorem dvals_cons (N d:Int) (h0:0≤d) (h1:d<10) (len:Nat):Value.int .i64 d::dvals .i64 len (td N)=dvals .i64 (len+1) (td (N*10+d)):=by
  have e:∀ i,td (N*10+d) (i+1)=td N i:=fun i=>by
    rw [← td_tenth];congr 1;omega
  unfold dvals
  rw [List.range_succ_eq_map,List.map_cons,List.map_map]
  show _=Value.int .i64 (td (N*10+d) 0)::_
  have e0:td (N*10+d) 0=d:=by unfold td;rw [tn_zero];omega
  rw [e0]
  congr 1
  exact List.map_congr_left fun i _=>by simp only [Function.comp_apply,e]
theorem tn_cons (N d:Int) (h0:0≤d) (h1:d<10) (len:Nat):tn (N*10+d) (len+1)=tn N len:=by
  rw [← tn_tenth];congr 1;omega
theorem r1_sign_v {v:Int} (z:Int) (h:sgn z=v) (w:World):
    Calls Tryz.prog 124 #[.string ⟨(Lib.itoa z).toArray⟩] w fun e w'=>e=.returned (.int .i64 v)∧Gr w w':=h ▸ r1_sign_i z w
theorem r1_sub_one {k:Nat} (z:Int) (hz:Sz k z) (hk:k≤600000) (w:World):
    Calls Tryz.prog 149 #[.string ⟨(Lib.itoa z).toArray⟩,.string ⟨#[49]⟩] w fun e w'=>e=.returned (.string ⟨(Lib.itoa (z - 1)).toArray⟩)∧Gr w w':=by
  have:=r1_sub (m:=1) z 1 hz (by unfold Sz;decide) (by omega) w
  rw [itoa_one] at this
  exact this
theorem text_at {neg:Bool} {n:Nat} {v:Value} {w:World} {L:List UInt8} (h:TenZ w v (n:Int)) (hL:textL neg n=L):
    Calls Tryz.prog 128 #[.bool neg,v] w fun e w'=>e=.returned (.string ⟨L.toArray⟩)∧Gr w w':=hL ▸ r1_text_z neg h
theorem TenS.toZ {k:Nat} {w:World} {v:Value} {n:Nat} (h:TenS w v (n:Int)) (hn:n<2 ^ k) (hk:k≤800000):TenZ w v (n:Int):=by
  obtain ⟨ao,len,cap,h1,h2,h3,h4,h5⟩:=h.len hn
  exact ⟨ao,len,cap,h1,h2,by omega,h3.top,h4⟩
theorem ne_zero_text {z:Int} (h:z≠0):((⟨(Lib.itoa z).toArray⟩:ByteArray).toList==[48])=false:=by
  rw [beq_eq_false_iff_ne,ByteArray.toList_eq]
  exact itoa_ne_zero h
theorem ne_zero_beq {z:Int} (h:z≠0):(Lib.itoa z==[48])=false:=by
  rw [beq_eq_false_iff_ne]
  exact itoa_ne_zero h
set_option maxRecDepth 100000 in
set_option maxHeartbeats 4000000 in
theorem r1_divmod {k m:Nat} (x y:Int) (hx:Sz k x) (hy:Sz m y) (af:0<y) (hk:k+m≤300000) (w:World):
    Calls Tryz.prog 126 #[.string ⟨(Lib.itoa x).toArray⟩,.string ⟨(Lib.itoa y).toArray⟩] w fun e w'=>e=.returned (.tuple #[.string ⟨(Lib.itoa (x/y)).toArray⟩,.string ⟨(Lib.itoa (x % y)).toArray⟩])∧Gr w w':=by
  go_enter Tryz.func126,Tryz.ntmps126
  go_wp2_with fail
  refine (r1_digits_i x hx (by omega) _).mono ?_
  rintro e w1 ⟨⟨v1,rfl,aM⟩,g1⟩
  obtain ⟨ao,la,ca,rfl,c1,n1,r1,l1⟩:=aM.len hx
  go_wp2_with fail
  refine (r1_digits_i y hy (by omega) _).mono ?_
  rintro e w2 ⟨⟨v2,rfl,aG⟩,g2⟩
  have r1:=r1.gr g2
  have ar:=g1.trans g2
  have aL:=aG
  obtain ⟨bo,lb,cb,rfl,c2,n2,r2,l2⟩:=aG.len hy
  clear aM r2 n2 l2 c2
  obtain ⟨a,ha⟩:∃ a:Nat,a=x.natAbs:=⟨_,rfl⟩
  obtain ⟨b,hb⟩:∃ b:Nat,b=y.natAbs:=⟨_,rfl⟩
  have hax:a<2 ^ k:=by rw [ha];exact hx
  have hbx:b<2 ^ m:=by rw [hb];exact hy
  have aO:0<b:=by omega
  rw [← ha] at n1 r1
  rw [← hb] at aL
  have HA:=Lib.hid ha
  have HB:=Lib.hid hb
  have HX:=Lib.hid (show a<2 ^ k∧b<2 ^ m from ⟨hax,hbx⟩)
  clear ha hb hax hbx
  go_wp2_with (at_make;refine wpList_makeI _ rfl _ _ rfl _ _ la rfl rfl (by omega) (by omega) (by omega) ?_)
  intro w3 hO aV hsz
  have a0:=hO
  clear hO hsz
  go_wp2
  go_loopw [8,10] (fun r i wr=>∃ (j:Nat) (v:Value) (d:Nat→Int),r=v∧i=.int .i64 ((j:Int) - 1)∧j≤la∧Hid (TenS wr v (tn (a:Int) j % (b:Int))∧∀ i,i<la→d i=if j≤i then td ((a:Int)/(b:Int)) i else 0)∧DOwn wr w2.heap.size la d∧Below w2.heap.size w2 wr) (fun _ i _=>(intOf i+1).toNat)
  case atStart=>
    refine ⟨la,_,_,rfl,rfl,Nat.le_refl _,⟨?_,fun i hi=>by rw [if_neg (by omega)]⟩,a0,aV⟩
    rw [n1.top]
    exact ⟨none,0,0,rfl,Nat.le_refl _,NX.zero,DRow.nil _ _ _⟩
  case round=>
    obtain ⟨j,v,d,rfl,rfl,hj,hz,hO,hB⟩:=hrel
    by_cases hp:0<j
    · obtain ⟨q,rfl⟩:∃ q,j=q+1:=⟨j - 1,by omega⟩
      have e1:(((q+1:Nat):Int) - 1)=(q:Int):=by omega
      simp only [e1]
      clear e1
      obtain ⟨N,hN⟩:∃ N:Int,N=tn (a:Int) (q+1) % (b:Int):=⟨_,rfl⟩
      have a6:0≤N:=by rw [hN];exact Int.emod_nonneg _ (by omega)
      have hNb:N<(b:Int):=by rw [hN];exact Int.emod_lt_of_pos _ (by omega)
      obtain ⟨ae,ab⟩:=hz.out
      rw [← hN] at ae
      obtain ⟨ro,lr,cr,rfl,hcr,nr,rr⟩:=ae
      have a3:lr≤m+1:=by
        obtain ⟨n0,aQ⟩:∃ n0:Nat,N=(n0:Int):=⟨N.toNat,by omega⟩
        rw [aQ] at nr hNb
        exact nr.len_bits (Nat.lt_trans (by omega) HX.out.2)
      have aP:=Lib.hid ab
      have HN:=Lib.hid hN
      clear hz ab hN
      obtain ⟨b1,aT,rfl,aq⟩:=(r1.below hB).at_ (by omega)
      have aC:=aq q (by omega)
      clear aq
      have d0:=td_nonneg (a:Int) q
      have d1:=td_lt (a:Int) q
      go_wp2_with (at_builtin;refine wpList_appR rfl (.tmp 29) (.tmp 30) _ (by rfl) wr.heap.size _ [.int .i64 (td (a:Int) q)] (by rfl) (own_lit _ _ _) ro lr cr (td N) (by rfl) (rr.gr (Gr.alloc _ _)) (by simp;omega) Tryz.underlying175 int_info (by simp) ?_)
      intro v4 w4 hown aI
      rw [dvals_cons N _ d0 d1] at hown
      have aH:Gr wr w4:=Below.trans ((Below.refl _ _).alloc (Nat.le_refl _) _) aI
      obtain ⟨N1,au⟩:∃ N1:Int,N1=N*10+td (a:Int) q:=⟨_,rfl⟩
      have aJ:tn N1 (lr+1)=0:=by rw [au,tn_cons _ _ d0 d1,nr.top]
      have ay:0≤N1:=by omega
      have a1:N1<10*(b:Int):=by omega
      rw [← au] at hown
      have aW:=Lib.hid aJ
      have aS:=Lib.hid au
      clear aJ au
      obtain ⟨aF,al,rfl,ak,_,aa,aA⟩:=hown.drowF
      go_wp2_with fail
      refine (r1_trim aF (lr+1) al N1 _ (by omega) ak ay aW.out aa).mono ?_
      rintro e w5 ⟨⟨k5,rfl,aU,aX⟩,rfl⟩
      have aZ:TenF w4 (w2.heap.size+1) (.slice aF k5 al) N1:=⟨_,_,_,rfl,by omega,aX,aa.shorter aU,fun ad e=>Nat.le_trans (by have:=hO.lt;omega) (aA ad e)⟩
      have aY:=hO.gr aH
      have aB:Below w2.heap.size w2 w4:=Below.trans hB (Below.mono aH hB.size)
      clear aa hown aI hO rr
      go_wp2
      obtain ⟨wo,hwo⟩:∃ wo:World,wo=w4:=⟨_,rfl⟩
      subst hwo
      go_loopg [8] 10 (fun gk r wr=>∃ (c:Nat) (v:Value) (e:Nat→Int),r=v∧c+gk=10∧Hid ((c:Int)*b≤N1∧TenF wr (w2.heap.size+1) v (N1 - (c:Int)*b)∧∀ i,i<la→e i=if q<i then td ((a:Int)/(b:Int)) i else if i=q then (c:Int) else 0)∧DOwn wr w2.heap.size la e∧Below w2.heap.size w2 wr)
      case atStart=>
        refine ⟨0,_,d,rfl,rfl,⟨by simp;omega,by simpa using aZ,fun i hi=>?_⟩,aY,aB⟩
        rw [aP.out i hi]
        by_cases h1:q<i
        · rw [if_pos h1,if_pos (by omega)]
        · rw [if_neg h1,if_neg (by omega)];split<;>rfl
      case round=>
        obtain ⟨c,v,e,rfl,hc,hz,aD,ai⟩:=hrel
        obtain ⟨ae,ab,aK⟩:=hz.out
        obtain ⟨r0,ac⟩:∃ r0:Nat,N1 - (c:Int)*b=(r0:Int):=⟨(N1 - (c:Int)*b).toNat,by omega⟩
        rw [ac] at ab
        have aj:r0<2 ^ (m+4):=by
          have h1:=HX.out.2
          have h2:(0:Int)≤(c:Int)*b:=Int.mul_nonneg (by omega) (by omega)
          rw [Nat.pow_add]
          omega
        have hbb:=aL.gr ai
        have aw:=Lib.hid ac
        have a2:=Lib.hid ae
        have az:=Lib.hid aK
        clear ac ae aK hz
        go_wp2_with fail
        refine (r1_order_i ab.s hbb aj HX.out.2 (by omega)).mono ?_
        rintro e7 w7 ⟨rfl,g7⟩
        by_cases hge:b≤r0
        · have aN:(0:Int)≤sgn ((r0:Int) - (b:Int)):=by have:=sgn_cases ((r0:Int) - (b:Int));omega
          have a5:c<9:=by
            rcases Nat.lt_or_ge c 9 with h | h
            · exact h
            · have h1:=aw.out
              have h2:(9:Int)*b≤(c:Int)*b:=Int.mul_le_mul_of_nonneg_right (by omega) (by omega)
              omega
          go_wp2_with fail
          refine (r1_minus_f (ab.s.gr g7) (hbb.gr g7) aj hge (by omega)).mono ?_
          rintro e8 w8 ⟨⟨v8,rfl,h8⟩,g8⟩
          have ax:=(aD.gr g7).gr g8
          have hcell:=ax.cell q (by omega)
          have hfree:=ax.free q
          have e9:=az.out q (by omega)
          rw [if_neg (by omega),if_pos rfl] at e9
          rw [e9] at hcell
          clear e9
          go_wp2
          go_roundg (gk - 1)
          case measure=>omega
          case rel=>
            have hmul:((c+1:Nat):Int)*(b:Int)=(c:Int)*b+b:=by rw [Int.natCast_add,Int.add_mul];simp
            refine ⟨c+1,_,_,rfl,by omega,⟨by rw [hmul];have:=aw.out;omega,?_,fun i hi=>?_⟩,ax.set (by omega) ((c:Int)+1),?_⟩
            · rw [hmul,show N1 - ((c:Int)*b+b)=((r0 - b:Nat):Int) by have:=aw.out;omega]
              exact (h8.mono (by have:=(aD.gr g7).lt;omega)).set (by omega) _ _
            · by_cases e1:i=q
              · subst e1;rw [upd_same,if_neg (by omega),if_pos rfl];simp
              · rw [upd_other _ _ e1,az.out i hi]
                by_cases e2:q<i
                · rw [if_pos e2,if_pos e2]
                · rw [if_neg e2,if_neg e2,if_neg e1,if_neg e1]
            · exact (Below.trans ai (Below.mono (g7.trans g8) ai.size)).setCell (Nat.le_refl _) _
        · have aN:sgn ((r0:Int) - (b:Int))<0:=by have:=sgn_cases ((r0:Int) - (b:Int));omega
          have hst:=short_stepx (a:Int) (b:Int) q (by omega)
          have a4:(0:Int)≤(c:Int):=by omega
          have hdiv:N1/(b:Int)=(c:Int)∧N1 % (b:Int)=(r0:Int):=by
            rw [Int.ediv_emod_unique (by omega)]
            have h1:=aw.out
            rw [Int.mul_comm (b:Int) (c:Int)]
            omega
          rw [← HN.out,← aS.out,hdiv.1,hdiv.2] at hst
          have HST:=Lib.hid hst
          clear hst hdiv
          go_wp2
          go_roundw
          case rel=>
            refine ⟨q,_,e,rfl,rfl,by omega,⟨?_,fun i hi=>?_⟩,aD.gr g7,Below.trans ai (Below.mono g7 ai.size)⟩
            · rw [HST.out.2.1];exact ab.s.gr g7
            · rw [az.out i hi]
              by_cases e2:q<i
              · rw [if_pos e2,if_pos (by omega)]
              · rw [if_neg e2]
                by_cases e3:i=q
                · rw [if_pos e3,if_pos (by omega),e3,HST.out.1]
                · rw [if_neg e3,if_neg (by omega)]
          case measure=>simp [intOf]
    · obtain rfl:j=0:=by omega
      obtain ⟨ae,ab⟩:=hz.out
      obtain ⟨qn,hqn⟩:∃ qn:Nat,qn=a/b:=⟨_,rfl⟩
      obtain ⟨rn,hrn⟩:∃ rn:Nat,rn=a % b:=⟨_,rfl⟩
      have hdm:(a:Int)=(b:Int)*qn+rn:=by
        have:=Nat.div_add_mod a b
        rw [hqn,hrn,← Int.natCast_mul,← Int.natCast_add,this]
      have hrb:rn<b:=by rw [hrn];exact Nat.mod_lt _ aO
      have g3:Gr w2 wr:=hB
      have hQ:TenZ wr (.slice (some ⟨w2.heap.size,0,none⟩) la la) (qn:Int):=by
        refine ⟨_,_,_,rfl,Nat.le_refl _,by omega,?_,(hO.congr fun i hi=>?_).row⟩
        · rw [hqn,Int.natCast_ediv,tn_div _ _ (by omega),n1.top,Int.zero_ediv]
        · rw [ab i hi,if_pos (by omega),hqn,Int.natCast_ediv]
      rw [tn_zero,← Int.natCast_emod,← hrn] at ae
      have hR:=ae.toZ (Nat.lt_trans hrb HX.out.2) (by omega)
      have hQs:Sz k (-(qn:Int)):=by
        have h1:=HX.out.1
        have h2:=Nat.div_le_self a b
        unfold Sz;omega
      have hax:x<0→x=-(a:Int):=fun h=>by have:=HA.out;omega
      have ah:¬ x<0→x=(a:Int):=fun h=>by have:=HA.out;omega
      have hby:y=(b:Int):=by have:=HB.out;omega
      have hRs:Sz m (-(rn:Int)):=by
        have h1:=HX.out.2
        unfold Sz;omega
      have HDM:=Lib.hid hdm
      have HBY:=Lib.hid hby
      clear hdm hby hz ae ab hO hqn hrn
      by_cases hneg:x<0
      · have av:=Lib.hid (hax hneg)
        clear hax ah
        by_cases ac:rn=0
        · subst ac
          have HF:Hid (x/y=-(qn:Int)∧x % y=0):=by
            have h1:=av.out
            have h2:=HDM.out
            have h3:=HBY.out
            show x/y=_∧_
            rw [h3,Int.ediv_emod_unique (by omega),Int.mul_neg]
            omega
          go_wp2_with fail
          (with_reducible refine (r1_sign_v x (sgn_neg hneg) _).mono ?_)
          rintro e4 w4 ⟨rfl,g4⟩
          go_wp2_with fail
          (with_reducible refine (r1_sign_v y (sgn_pos af) _).mono ?_)
          rintro e5 w5 ⟨rfl,g5⟩
          go_wp2_with fail
          (with_reducible refine (text_at (neg:=true) ((hQ.gr g4).gr g5) (text_abs (z:=-(qn:Int)) (.inl ⟨rfl,rfl⟩))).mono ?_)
          rintro e6 w6 ⟨rfl,g6⟩
          go_wp2_with fail
          (with_reducible refine (r1_sign_v x (sgn_neg hneg) _).mono ?_)
          rintro e7 w7 ⟨rfl,g7⟩
          go_wp2_with fail
          (with_reducible refine (text_at (neg:=true) ((((hR.gr g4).gr g5).gr g6).gr g7) (show textL true 0=[48] from rfl)).mono ?_)
          rintro e8 w8 ⟨rfl,g8⟩
          go_wp2
          go_ret2
          refine ⟨?_,(((((ar.trans g3).trans g4).trans g5).trans g6).trans g7).trans g8⟩
          rw [HF.out.1,HF.out.2,itoa_zero]
          rfl
        · have HF:Hid (x/y=-(qn:Int) - 1∧x % y=-(rn:Int)+y):=by
            have h1:=av.out
            have h2:=HDM.out
            have h3:=HBY.out
            show x/y=_∧_
            rw [h3,Int.ediv_emod_unique (by omega),Int.mul_sub,Int.mul_neg]
            omega
          have hne:=ne_zero_text (show -(rn:Int)≠0 by omega)
          have aE:=ne_zero_beq (show -(rn:Int)≠0 by omega)
          go_wp2_with fail
          (with_reducible refine (r1_sign_v x (sgn_neg hneg) _).mono ?_)
          rintro e4 w4 ⟨rfl,g4⟩
          go_wp2_with fail
          (with_reducible refine (r1_sign_v y (sgn_pos af) _).mono ?_)
          rintro e5 w5 ⟨rfl,g5⟩
          go_wp2_with fail
          (with_reducible refine (text_at (neg:=true) ((hQ.gr g4).gr g5) (text_abs (z:=-(qn:Int)) (.inl ⟨rfl,rfl⟩))).mono ?_)
          rintro e6 w6 ⟨rfl,g6⟩
          go_wp2_with fail
          (with_reducible refine (r1_sign_v x (sgn_neg hneg) _).mono ?_)
          rintro e7 w7 ⟨rfl,g7⟩
          go_wp2_with fail
          (with_reducible refine (text_at (neg:=true) ((((hR.gr g4).gr g5).gr g6).gr g7) (text_abs (z:=-(rn:Int)) (.inl ⟨rfl,rfl⟩))).mono ?_)
          rintro e8 w8 ⟨rfl,g8⟩
          go_wp2_with fail
          (with_reducible refine (r1_sign_v (-(rn:Int)) (sgn_neg (by omega)) _).mono ?_)
          rintro e9 w9 ⟨rfl,g9⟩
          go_wp2_with fail
          (with_reducible refine (r1_sign_v y (sgn_pos af) _).mono ?_)
          rintro aR wa ⟨rfl,ga⟩
          go_wp2_with fail
          (with_reducible refine (r1_sub_one (-(qn:Int)) hQs (by omega) _).mono ?_)
          rintro e11 wb ⟨rfl,gb⟩
          go_wp2_with fail
          (with_reducible refine (r1_add (-(rn:Int)) y hRs hy (by omega) _).mono ?_)
          rintro e12 wc ⟨rfl,gc⟩
          go_wp2
          go_ret2
          refine ⟨?_,(((((((((ar.trans g3).trans g4).trans g5).trans g6).trans g7).trans g8).trans g9).trans ga).trans gb).trans gc⟩
          rw [HF.out.1,HF.out.2]
          rfl
      · have av:=Lib.hid (ah hneg)
        clear hax ah
        have HF:Hid (x/y=(qn:Int)∧x % y=(rn:Int)):=by
          have h1:=av.out
          have h2:=HDM.out
          have h3:=HBY.out
          show x/y=_∧_
          rw [h3,Int.ediv_emod_unique (by omega)]
          omega
        by_cases hx0:x=0
        · have ac:rn=0:=by
            have h1:=HF.out.2
            rw [hx0,Int.zero_emod] at h1;omega
          have hsx:sgn x=0:=by rw [hx0];rfl
          subst ac
          have HS:=Lib.hid hsx
          clear hsx hx0
          go_wp2_with fail
          (with_reducible refine (r1_sign_v x HS.out _).mono ?_)
          rintro e4 w4 ⟨rfl,g4⟩
          go_wp2_with fail
          (with_reducible refine (r1_sign_v y (sgn_pos af) _).mono ?_)
          rintro e5 w5 ⟨rfl,g5⟩
          go_wp2_with fail
          (with_reducible refine (text_at (neg:=false) ((hQ.gr g4).gr g5) (text_abs (z:=(qn:Int)) (.inr ⟨rfl,rfl⟩))).mono ?_)
          rintro e6 w6 ⟨rfl,g6⟩
          go_wp2_with fail
          (with_reducible refine (r1_sign_v x HS.out _).mono ?_)
          rintro e7 w7 ⟨rfl,g7⟩
          go_wp2_with fail
          (with_reducible refine (text_at (neg:=false) ((((hR.gr g4).gr g5).gr g6).gr g7) (show textL false 0=[48] from rfl)).mono ?_)
          rintro e8 w8 ⟨rfl,g8⟩
          go_wp2
          go_ret2
          refine ⟨?_,(((((ar.trans g3).trans g4).trans g5).trans g6).trans g7).trans g8⟩
          rw [HF.out.1,HF.out.2]
          show _=Ending.returned (Value.tuple #[_,.string ⟨(Lib.itoa 0).toArray⟩])
          rw [itoa_zero]
          rfl
        · by_cases ac:rn=0
          · subst ac
            go_wp2_with fail
            (with_reducible refine (r1_sign_v x (sgn_pos (by omega)) _).mono ?_)
            rintro e4 w4 ⟨rfl,g4⟩
            go_wp2_with fail
            (with_reducible refine (r1_sign_v y (sgn_pos af) _).mono ?_)
            rintro e5 w5 ⟨rfl,g5⟩
            go_wp2_with fail
            (with_reducible refine (text_at (neg:=false) ((hQ.gr g4).gr g5) (text_abs (z:=(qn:Int)) (.inr ⟨rfl,rfl⟩))).mono ?_)
            rintro e6 w6 ⟨rfl,g6⟩
            go_wp2_with fail
            (with_reducible refine (r1_sign_v x (sgn_pos (by omega)) _).mono ?_)
            rintro e7 w7 ⟨rfl,g7⟩
            go_wp2_with fail
            (with_reducible refine (text_at (neg:=false) ((((hR.gr g4).gr g5).gr g6).gr g7) (show textL false 0=[48] from rfl)).mono ?_)
            rintro e8 w8 ⟨rfl,g8⟩
            go_wp2
            go_ret2
            refine ⟨?_,(((((ar.trans g3).trans g4).trans g5).trans g6).trans g7).trans g8⟩
            rw [HF.out.1,HF.out.2]
            show _=Ending.returned (Value.tuple #[_,.string ⟨(Lib.itoa 0).toArray⟩])
            rw [itoa_zero]
            rfl
          · have hne:=ne_zero_text (show (rn:Int)≠0 by omega)
            have aE:=ne_zero_beq (show (rn:Int)≠0 by omega)
            go_wp2_with fail
            (with_reducible refine (r1_sign_v x (sgn_pos (by omega)) _).mono ?_)
            rintro e4 w4 ⟨rfl,g4⟩
            go_wp2_with fail
            (with_reducible refine (r1_sign_v y (sgn_pos af) _).mono ?_)
            rintro e5 w5 ⟨rfl,g5⟩
            go_wp2_with fail
            (with_reducible refine (text_at (neg:=false) ((hQ.gr g4).gr g5) (text_abs (z:=(qn:Int)) (.inr ⟨rfl,rfl⟩))).mono ?_)
            rintro e6 w6 ⟨rfl,g6⟩
            go_wp2_with fail
            (with_reducible refine (r1_sign_v x (sgn_pos (by omega)) _).mono ?_)
            rintro e7 w7 ⟨rfl,g7⟩
            go_wp2_with fail
            (with_reducible refine (text_at (neg:=false) ((((hR.gr g4).gr g5).gr g6).gr g7) (text_abs (z:=(rn:Int)) (.inr ⟨rfl,rfl⟩))).mono ?_)
            rintro e8 w8 ⟨rfl,g8⟩
            go_wp2_with fail
            (with_reducible refine (r1_sign_v (rn:Int) (sgn_pos (by omega)) _).mono ?_)
            rintro e9 w9 ⟨rfl,g9⟩
            go_wp2_with fail
            (with_reducible refine (r1_sign_v y (sgn_pos af) _).mono ?_)
            rintro aR wa ⟨rfl,ga⟩
            go_wp2
            go_ret2
            refine ⟨?_,(((((((ar.trans g3).trans g4).trans g5).trans g6).trans g7).trans g8).trans g9).trans ga⟩
            rw [HF.out.1,HF.out.2]
            rfl
end Go.Proofs.YtaldbfflkpgfoaaGreatDoor
/- The reference of layer 1:the greatest common divisor,the text of an int. -/
namespace Go.Proofs.YtaldbfflkpgfoaaGreatDoor
open Go.RowKit

theorem text_false {n:Nat}:textL false n=Lib.itoa (n:Int):=text_abs (.inr ⟨rfl,rfl⟩)
set_option maxRecDepth 100000 in
set_option maxHeartbeats 4000000 in
theorem r1_gcd {k m:Nat} (x y:Int) (hx:Sz k x) (hy:Sz m y) (hk:k+m≤140000) (w:World):
    Calls Tryz.prog 119 #[.string ⟨(Lib.itoa x).toArray⟩,.string ⟨(Lib.itoa y).toArray⟩] w fun e w'=>e=.returned (.string ⟨(Lib.itoa (Int.gcd x y:Int)).toArray⟩)∧Gr w w':=by
  go_enter Tryz.func119,Tryz.ntmps119
  go_wp2_with fail
  refine (r1_digits_i x hx (by omega) _).mono ?_
  rintro e w1 ⟨⟨v1,rfl,ae⟩,g1⟩
  go_wp2_with fail
  (with_reducible refine (text_at (neg:=false) (ae.toZ hx (by omega)) text_false).mono ?_)
  rintro e w2 ⟨rfl,g2⟩
  go_wp2_with fail
  refine (r1_digits_i y hy (by omega) _).mono ?_
  rintro e w3 ⟨⟨v3,rfl,ab⟩,g3⟩
  go_wp2_with fail
  (with_reducible refine (text_at (neg:=false) (ab.toZ hy (by omega)) text_false).mono ?_)
  rintro e w4 ⟨rfl,g4⟩
  have ac:x.natAbs<2 ^ (k+m):=Nat.lt_of_lt_of_le hx (Nat.pow_le_pow_right (by omega) (by omega))
  have ad:y.natAbs<2 ^ (k+m):=Nat.lt_of_lt_of_le hy (Nat.pow_le_pow_right (by omega) (by omega))
  go_wp2
  go_loopg [5,6] (y.natAbs) (fun gk s5 s6 wr=>∃ A:Nat,s5=.string ⟨(Lib.itoa (A:Int)).toArray⟩∧s6=.string ⟨(Lib.itoa (gk:Int)).toArray⟩∧Hid (Nat.gcd A gk=Int.gcd x y∧A<2 ^ (k+m)∧gk<2 ^ (k+m))∧Gr w wr)
  case atStart=>exact ⟨x.natAbs,rfl,rfl,⟨rfl,ac,ad⟩,((g1.trans g2).trans g3).trans g4⟩
  case round=>
    obtain ⟨A,rfl,rfl,hz,hB⟩:=hrel
    by_cases hg:gk=0
    · subst hg
      have HZ:Hid (A=Int.gcd x y):=by
        have:=hz.out.1
        rw [Nat.gcd_zero_right] at this
        exact this
      have e0:Lib.itoa 0=[48]:=itoa_zero
      simp only [Int.natCast_zero,e0]
      go_wp2
      go_ret
      refine ⟨?_,hB⟩
      rw [HZ.out];rfl
    · have hne:=ne_zero_text (show (gk:Int)≠0 by omega)
      have aa:=ne_zero_beq (show (gk:Int)≠0 by omega)
      have hdm:=r1_divmod (k:=k+m) (m:=k+m) (A:Int) (gk:Int) (by unfold Sz;simpa using hz.out.2.1) (by unfold Sz;simpa using hz.out.2.2) (by omega) (by omega) wr
      rw [← Int.natCast_emod] at hdm
      go_wp2_with fail
      (with_reducible refine hdm.mono ?_)
      rintro e w5 ⟨rfl,g5⟩
      clear hdm
      go_wp2
      go_roundg (A % gk)
      case measure=>exact Nat.mod_lt _ (by omega)
      case rel=>
        refine ⟨gk,rfl,rfl,⟨?_,hz.out.2.2,Nat.lt_trans (Nat.mod_lt _ (by omega)) hz.out.2.2⟩,hB.trans g5⟩
        rw [← hz.out.1,Nat.gcd_comm gk,← Nat.gcd_rec,Nat.gcd_comm]
end Go.Proofs.YtaldbfflkpgfoaaGreatDoor
/- What the references' checks of texts say,without the program. -/
namespace Go.Proofs.YtaldbfflkpgfoaaGreatDoor
open Go

end Go.Proofs.YtaldbfflkpgfoaaGreatDoor
/- The reference of layer 1:the check of a text. -/
namespace Go.Proofs.YtaldbfflkpgfoaaGreatDoor
open Go.RowKit

theorem toList_get {D:ByteArray} {k:Nat} (h:k<D.size):D.data.toList[k]?=some D[k]:=by
  rw [Array.getElem?_toList,Array.getElem?_eq_getElem h];rfl
end Go.Proofs.YtaldbfflkpgfoaaGreatDoor
/- What the references' checks of the texts of rationals say,without the program. -/
namespace Go.Proofs.YtaldbfflkpgfoaaGreatDoor
open Go

/-- what lies before the first slash,and behind it -/
def cutL:List UInt8→List UInt8 × Option (List UInt8)
  | []=>([],none)
  | c::l=>if c=47 then ([],some l) else (c::(cutL l).1,(cutL l).2)
def numL (s:List UInt8):List UInt8:=(cutL s).1
def denL (s:List UInt8):List UInt8:=(cutL s).2.getD [49]
theorem cutL_eq:∀ s,s=(match (cutL s).2 with | none=>(cutL s).1 | some d=>(cutL s).1++47::d)
  | []=>rfl
  | c::l=>by
    have ih:=cutL_eq l
    unfold cutL
    by_cases h:c=47
    · rw [if_pos h,h];rfl
    · rw [if_neg h]
      dsimp only
      cases hd:(cutL l).2 with
      | none=>rw [hd] at ih;dsimp only at ih ⊢;rw [← ih]
      | some d=>rw [hd] at ih;dsimp only at ih ⊢;rw [List.cons_append,← ih]
theorem cutL_none:∀ {s:List UInt8},(∀ c ∈ s,c≠47)→cutL s=(s,none)
  | [],_=>rfl
  | c::l,h=>by
    unfold cutL
    rw [if_neg (h c (by simp)),cutL_none (fun x hx=>h x (by simp [hx]))]
theorem cutL_some:∀ {a b:List UInt8},(∀ c ∈ a,c≠47)→cutL (a++47::b)=(a,some b)
  | [],b,_=>by simp [cutL]
  | c::l,b,h=>by
    rw [List.cons_append]
    unfold cutL
    rw [if_neg (h c (by simp)),cutL_some (fun x hx=>h x (by simp [hx]))]
theorem itoa_noslash (z:Int):∀ c ∈ Lib.itoa z,c≠47:=by
  intro c hc e
  subst e
  by_cases h:z<0
  · rw [itoa_neg h] at hc
    rcases List.mem_cons.1 hc with h1 | h1
    · exact absurd h1 (by decide)
    · have:=dec_all _ _ h1;simp at this
  · rw [itoa_nonneg (by omega)] at hc
    have:=dec_all _ _ hc;simp at this
theorem cutL_ratL (q:Rat):cutL (ratL q)=(Lib.itoa q.num,if q.den=1 then none else some (Lib.itoa (q.den:Int))):=by
  unfold ratL
  by_cases h:q.den=1
  · rw [if_pos h,if_pos h,cutL_none (itoa_noslash _)]
  · rw [if_neg h,if_neg h,List.append_assoc]
    exact cutL_some (itoa_noslash _)
theorem numL_ratL (q:Rat):numL (ratL q)=Lib.itoa q.num:=by unfold numL;rw [cutL_ratL]
theorem denL_ratL (q:Rat):denL (ratL q)=Lib.itoa (q.den:Int):=by
  unfold denL;rw [cutL_ratL]
  by_cases h:q.den=1
  · rw [if_pos h,h];exact itoa_one.symm
  · rw [if_neg h];rfl
end Go.Proofs.YtaldbfflkpgfoaaGreatDoor
/- Printed by a program of the prover's:whole,Den,reduced. -/
namespace Go.Proofs.YtaldbfflkpgfoaaGreatDoor
open Go.RowKit

set_option maxRecDepth 100000 in
set_option maxHeartbeats 1000000 in
theorem whole_z {k:Nat} {c0 c1 c2 c3:Value} {w:World} (hd:IsInt w k c2 c3 0):
    Calls Tryz.prog 78 #[(.agg #[c0,c1,c2,c3])] w fun e w'=>e=.returned (.bool true)∧Gr w w':=by
 go_enter Tryz.func78,Tryz.ntmps78
 have hB:=Gr.refl w
 refine wp_seq_k (fun K1 k1=>?_)
 refine rg [0,1] ?_
 refine se ?_
 refine eb 36 #[c0,c1,c2,c3] 1 hB fun b2 w2 g2 L2 o2 q2 hB=>?_
 simp only [p3,p4]
 refine sv 2 (.bool false) ?_
 refine sq_nil ?_
 refine k1 _ _ ?_
 try clear k1 K1
 refine wp_seq_k (fun K3 k3=>?_)
 have ab:=Gr.drew w2
 replace hB:=hB.trans ab
 replace L2:=L2.gr ab
 refine wp_region_ord (fun w'=>Lc w' b2 #[c0,c1,c2,c3] 36) [(true,0),(true,1),(false,2),(true,3),(true,4),(true,5),(true,6),(false,7),(false,8),(true,9),(true,10),(true,11)] (by kernel_rfl) (by kernel_rfl) (by kernel_rfl) (by decide) (fun _ _ _ _ _ h=>h) L2 ?_
 refine ov 3 (.pointer (some ⟨b2,2,none⟩)) ?_
 refine ow 4 (.agg #[c2,c3]) rfl (fun w' hS=>(rl 34 2 [c2,c3] hS)) ?_
 refine oe ?_
 have aa:=g2.kp.trans ab.kp
 replace hd:=hd.kp aa
 refine ec 5 (sign_zero hd) ?_
 rintro ae ad ⟨rfl,ac⟩
 refine ⟨_,rfl,?_⟩
 replace hB:=hB.trans ac
 replace L2:=L2.gr ac
 refine ⟨L2,?_⟩
 simp only [p3,p4]
 refine ov 6 (.bool true) ?_
 refine ov 7 (.bool true) ?_
 refine os 8 ?_
 refine os 9 ?_
 refine oz 10 L2 ?_
 refine oz 11 L2 ?_
 refine os 12 ?_
 refine ov 13 (.bool true) ?_
 refine ov 2 (.bool true) ?_
 refine ord_nil ?_
 refine k3 _ _ ?_
 try clear k3 K3
 refine wp_ret ?_
 refine bodyPost_ret (v:=(.bool true)) (ret_tmp rfl rfl) rfl ⟨?_,hB⟩
 exact rfl

set_option maxRecDepth 100000 in
set_option maxHeartbeats 1000000 in
theorem whole_p {k:Nat} {c0 c1 c2 c3:Value} {D:Int} {w:World} (hd:IsInt w k c2 c3 D) (_h0:0<D) (_hk:k≤1000000):
    Calls Tryz.prog 78 #[(.agg #[c0,c1,c2,c3])] w fun e w'=>e=.returned (.bool (sgn (D - 1)==0))∧Gr w w':=by
 go_enter Tryz.func78,Tryz.ntmps78
 have hB:=Gr.refl w
 refine wp_seq_k (fun K1 k1=>?_)
 refine rg [0,1] ?_
 refine se ?_
 refine eb 36 #[c0,c1,c2,c3] 1 hB fun b2 w2 g2 L2 o2 q2 hB=>?_
 simp only [p3,p4]
 refine sv 2 (.bool false) ?_
 refine sq_nil ?_
 refine k1 _ _ ?_
 try clear k1 K1
 refine wp_seq_k (fun K3 k3=>?_)
 have aa:=Gr.drew w2
 replace hB:=hB.trans aa
 replace L2:=L2.gr aa
 refine wp_region_ord (fun w'=>Lc w' b2 #[c0,c1,c2,c3] 36) [(true,0),(true,1),(false,2),(true,3),(true,4),(true,5),(true,6),(false,7),(false,8),(true,9),(true,10),(true,11)] (by kernel_rfl) (by kernel_rfl) (by kernel_rfl) (by decide) (fun _ _ _ _ _ h=>h) L2 ?_
 refine ov 3 (.pointer (some ⟨b2,2,none⟩)) ?_
 refine ow 4 (.agg #[c2,c3]) rfl (fun w' hS=>(rl 34 2 [c2,c3] hS)) ?_
 refine oe ?_
 have ad:=g2.kp.trans aa.kp
 replace hd:=hd.kp ad
 refine ec 5 (sign_pos hd (by omega)) ?_
 rintro ar aj ⟨rfl,ae⟩
 refine ⟨_,rfl,?_⟩
 replace hB:=hB.trans ae
 replace L2:=L2.gr ae
 refine ⟨L2,?_⟩
 simp only [p3,p4]
 refine ov 6 (.bool false) ?_
 refine ov 7 (.bool false) ?_
 refine ov 8 (.pointer (some ⟨b2,2,none⟩)) ?_
 refine ow 9 (.agg #[c2,c3]) rfl (fun w' hS=>(rl 34 2 [c2,c3] hS)) ?_
 refine oe ?_
 refine ec 10 (one_i _) ?_
 rintro aq ak ⟨⟨au,ai,rfl,ah⟩,ab⟩
 refine ⟨_,rfl,?_⟩
 replace hB:=hB.trans ab
 replace L2:=L2.gr ab
 refine ⟨L2,?_⟩
 simp only [p3,p4]
 refine oe ?_
 have ac:=ae.kp.trans ab.kp
 replace hd:=hd.kp ac
 refine ec 11 (compare_i hd ah (by omega) (by omega)) ?_
 rintro al av ⟨rfl,af⟩
 refine ⟨_,rfl,?_⟩
 replace hB:=hB.trans af
 replace L2:=L2.gr af
 refine ⟨L2,?_⟩
 simp only [p3,p4]
 refine ov 12 (.bool ((sgn (D - 1)==(0:Int)))) ?_
 refine ov 13 (.bool ((sgn (D - 1)==(0:Int)))) ?_
 refine ov 2 (.bool ((sgn (D - 1)==(0:Int)))) ?_
 refine ord_nil ?_
 refine k3 _ _ ?_
 try clear k3 K3
 refine wp_ret ?_
 refine bodyPost_ret (v:=(.bool ((sgn (D - 1)==(0:Int))))) (ret_tmp rfl rfl) rfl ⟨?_,hB⟩
 exact rfl

set_option maxRecDepth 100000 in
set_option maxHeartbeats 1000000 in
theorem den_z {k:Nat} {c0 c1 c2 c3:Value} {w:World} (hd:IsInt w k c2 c3 0):
    Calls Tryz.prog 81 #[(.agg #[c0,c1,c2,c3])] w fun e w'=>(∃ x' y',e=.returned (.agg #[x',y'])∧IsInt w' 64 x' y' (1))∧Gr w w':=by
 go_enter Tryz.func81,Tryz.ntmps81
 have hB:=Gr.refl w
 refine wp_seq_k (fun K1 k1=>?_)
 refine rg [0,1] ?_
 refine se ?_
 refine eb 36 #[c0,c1,c2,c3] 1 hB fun b2 w2 g2 L2 o2 q2 hB=>?_
 simp only [p3,p4]
 refine se ?_
 refine ea 34 #[(.bool false),(.slice none 0 0)] 2 hB fun b3 w3 g3 L3 o3 q3 hB=>?_
 simp only [p3,p4]
 refine sq_nil ?_
 refine k1 _ _ ?_
 try clear k1 K1
 refine wp_seq_k (fun K4 k4=>?_)
 refine wp_seq_k (fun K5 k5=>?_)
 refine rg [0,1,2,3] ?_
 refine sv 3 (.pointer (some ⟨b2,2,none⟩)) ?_
 replace L2:=L2.gr g3
 refine sw 4 (.agg #[c2,c3]) rfl (rl 34 2 [c2,c3] L2) ?_
 refine se ?_
 have ac:=g2.kp.trans g3.kp
 replace hd:=hd.kp ac
 refine ec 5 (sign_zero hd) ?_
 rintro e6 w6 ⟨rfl,g6⟩
 refine ⟨_,rfl,?_⟩
 replace hB:=hB.trans g6
 simp only [p3,p4]
 refine sv 6 (.bool true) ?_
 refine sq_nil ?_
 refine k5 _ _ ?_
 try clear k5 K5
 refine wp_cond_true rfl ?_
 refine wp_seq_k (fun K8 k8=>?_)
 refine rg [0,1] ?_
 refine se ?_
 refine ec 7 (one_i _) ?_
 rintro e9 w9 ⟨⟨x9,y9,rfl,h9⟩,g9⟩
 refine ⟨_,rfl,?_⟩
 replace hB:=hB.trans g9
 simp only [p3,p4]
 refine se ?_
 replace L3:=L3.gr (g6.trans g9)
 refine es 34 0 (.agg #[x9,y9]) [x9,y9] #[x9,y9] L3 hB q3 ⟨h9.one0,h9.one1,trivial⟩ fun ad ab aa L3 hB=>?_
 refine sq_nil ?_
 refine k8 _ _ ?_
 try clear k8 K8
 refine wp_ret ?_
 simp only [Exit.then]
 refine bodyPost_ret (v:=(.agg #[x9,y9])) (ret_cell _ _ _ rfl rfl L3 (by kernel_rfl)) rfl ⟨?_,hB⟩
 replace h9:=h9.kp aa
 exact ⟨_,_,rfl,h9⟩

set_option maxRecDepth 100000 in
set_option maxHeartbeats 1000000 in
theorem den_p {k:Nat} {c0 c1 c2 c3:Value} {D:Int} {w:World} (hd:IsInt w k c2 c3 D) (_h0:0<D):
    Calls Tryz.prog 81 #[(.agg #[c0,c1,c2,c3])] w fun e w'=>(∃ x' y',e=.returned (.agg #[x',y'])∧IsInt w' k x' y' (D))∧Gr w w':=by
 go_enter Tryz.func81,Tryz.ntmps81
 have hB:=Gr.refl w
 refine wp_seq_k (fun K1 k1=>?_)
 refine rg [0,1] ?_
 refine se ?_
 refine eb 36 #[c0,c1,c2,c3] 1 hB fun b2 w2 g2 L2 o2 q2 hB=>?_
 simp only [p3,p4]
 refine se ?_
 refine ea 34 #[(.bool false),(.slice none 0 0)] 2 hB fun b3 w3 g3 L3 o3 q3 hB=>?_
 simp only [p3,p4]
 refine sq_nil ?_
 refine k1 _ _ ?_
 try clear k1 K1
 refine wp_seq_k (fun K4 k4=>?_)
 refine wp_seq_k (fun K5 k5=>?_)
 refine rg [0,1,2,3] ?_
 refine sv 3 (.pointer (some ⟨b2,2,none⟩)) ?_
 replace L2:=L2.gr g3
 refine sw 4 (.agg #[c2,c3]) rfl (rl 34 2 [c2,c3] L2) ?_
 refine se ?_
 have ab:=g2.kp.trans g3.kp
 replace hd:=hd.kp ab
 refine ec 5 (sign_pos hd (by omega)) ?_
 rintro e6 w6 ⟨rfl,g6⟩
 refine ⟨_,rfl,?_⟩
 replace hB:=hB.trans g6
 simp only [p3,p4]
 refine sv 6 (.bool false) ?_
 refine sq_nil ?_
 refine k5 _ _ ?_
 try clear k5 K5
 refine wp_cond_false rfl ?_
 refine wp_skip ?_
 refine k4 _ _ ?_
 try clear k4 K4
 refine wp_seq_k (fun K8 k8=>?_)
 refine rg [0,1,2] ?_
 refine sv 8 (.pointer (some ⟨b2,2,none⟩)) ?_
 replace L2:=L2.gr g6
 refine sw 9 (.agg #[c2,c3]) rfl (rl 34 2 [c2,c3] L2) ?_
 refine se ?_
 replace L3:=L3.gr g6
 refine es 34 0 (.agg #[c2,c3]) [c2,c3] #[c2,c3] L3 hB q3 ⟨hd.one0,hd.one1,trivial⟩ fun w9 ad ac L3 hB=>?_
 refine sq_nil ?_
 refine k8 _ _ ?_
 try clear k8 K8
 refine wp_ret ?_
 refine bodyPost_ret (v:=(.agg #[c2,c3])) (ret_cell _ _ _ rfl rfl L3 (by kernel_rfl)) rfl ⟨?_,hB⟩
 have aa:=g6.kp.trans ac
 replace hd:=hd.kp aa
 exact ⟨_,_,rfl,hd⟩

set_option maxRecDepth 100000 in
set_option maxHeartbeats 1000000 in
theorem reduced_p1 {k:Nat} {n0 n1 d0 d1:Value} {N D:Int} {w:World} (hn:IsInt w k n0 n1 N) (hd:IsInt w k d0 d1 D) (_hk:k+k+k+k+k+k+66≤1000000) (_h0:0<D) (hg:(sgn ((Int.gcd (N) (D):Int) - 1) !=0)=false):
    Calls Tryz.prog 95 #[(.agg #[n0,n1]),(.agg #[d0,d1])] w fun e w'=>(∃ x y x2 y2,e=.returned (.agg #[x,y,x2,y2])∧IsInt w' k x y (N)∧IsInt w' k x2 y2 (D))∧Gr w w':=by
 go_enter Tryz.func95,Tryz.ntmps95
 have hB:=Gr.refl w
 refine wp_seq_k (fun K1 k1=>?_)
 refine rg [0,1,2] ?_
 refine se ?_
 refine eb 34 #[n0,n1] 2 hB fun b2 w2 g2 L2 o2 q2 hB=>?_
 simp only [p3,p4]
 refine se ?_
 refine eb 34 #[d0,d1] 3 hB fun b3 w3 g3 L3 o3 q3 hB=>?_
 simp only [p3,p4]
 refine se ?_
 refine ea 36 #[(.bool false),(.slice none 0 0),(.bool false),(.slice none 0 0)] 4 hB fun b4 w4 g4 L4 o4 q4 hB=>?_
 replace L2:=L2.gr g3
 simp only [p3,p4]
 refine sq_nil ?_
 refine k1 _ _ ?_
 try clear k1 K1
 refine wp_seq_k (fun K5 k5=>?_)
 refine wp_seq_k (fun K6 k6=>?_)
 refine rg [0,1,2] ?_
 replace L3:=L3.gr g4
 refine sw 6 (.agg #[d0,d1]) rfl (rl 34 0 [d0,d1] L3) ?_
 refine se ?_
 have aJ:=g2.kp.trans (g3.kp.trans g4.kp)
 replace hd:=hd.kp aJ
 refine ec 7 (sign_pos hd (by omega)) ?_
 rintro e7 w7 ⟨rfl,g7⟩
 refine ⟨_,rfl,?_⟩
 replace hB:=hB.trans g7
 simp only [p3,p4]
 refine sv 8 (.bool false) ?_
 refine sq_nil ?_
 refine k6 _ _ ?_
 try clear k6 K6
 refine wp_cond_false rfl ?_
 refine wp_skip ?_
 refine k5 _ _ ?_
 try clear k5 K5
 refine wp_seq_k (fun K9 k9=>?_)
 refine rg [0,1,2,3,4] ?_
 replace L2:=L2.gr (g4.trans g7)
 refine sw 13 (.agg #[n0,n1]) rfl (rl 34 0 [n0,n1] L2) ?_
 replace L3:=L3.gr g7
 refine sw 14 (.agg #[d0,d1]) rfl (rl 34 0 [d0,d1] L3) ?_
 refine se ?_
 have ax:=g2.kp.trans (g3.kp.trans (g4.kp.trans g7.kp))
 replace hn:=hn.kp ax
 replace hd:=hd.kp g7.kp
 refine ec 15 (gcd_i hn hd (by omega)) ?_
 rintro aM aQ ⟨⟨ai,ak,rfl,aq⟩,av⟩
 refine ⟨_,rfl,?_⟩
 replace hB:=hB.trans av
 simp only [p3,p4]
 refine se ?_
 refine ea 34 #[(.bool false),(.slice none 0 0)] 5 hB fun aE aN au ab aw q12 hB=>?_
 replace L2:=L2.gr av
 have ad:=L2.ne aw
 replace L3:=L3.gr av
 have af:=L3.ne aw
 replace L4:=L4.gr (g7.trans av)
 have ae:=L4.ne aw
 simp only [p3,p4]
 refine se ?_
 refine es 34 0 (.agg #[ai,ak]) [ai,ak] #[ai,ak] ab hB q12 ⟨aq.one0,aq.one1,trivial⟩ fun aG ah al ab hB=>?_
 refine sq_nil ?_
 refine k9 _ _ ?_
 try clear k9 K9
 refine wp_seq_k (fun aK aA=>?_)
 refine wp_seq_k (fun aI aB=>?_)
 have aa:=Gr.drew aG
 replace hB:=hB.trans aa
 replace ab:=ab.gr aa
 refine wp_region_ord (fun w'=>Lc w' aE #[ai,ak] 34) [(true,0),(false,1),(false,2),(true,3)] (by kernel_rfl) (by kernel_rfl) (by kernel_rfl) (by decide) (fun _ _ _ _ _ h=>h) ab ?_
 refine ow 16 (.agg #[ai,ak]) rfl (fun w' hS=>(rl 34 0 [ai,ak] hS)) ?_
 refine oe ?_
 refine ec 17 (one_i _) ?_
 rintro aT aU ⟨⟨aR,aL,rfl,aD⟩,ac⟩
 refine ⟨_,rfl,?_⟩
 replace hB:=hB.trans ac
 replace ab:=ab.gr ac
 refine ⟨ab,?_⟩
 simp only [p3,p4]
 refine oe ?_
 have ay:=au.kp.trans (al.trans (aa.kp.trans ac.kp))
 replace aq:=aq.kp ay
 refine ec 18 (compare_i aq aD (by omega) (by omega)) ?_
 rintro aO aS ⟨rfl,aj⟩
 refine ⟨_,rfl,?_⟩
 replace hB:=hB.trans aj
 replace ab:=ab.gr aj
 refine ⟨ab,?_⟩
 simp only [p3,p4]
 refine ow 19 (.bool false) rfl (fun w' hS=>(RunV.bool (x:=(sgn ((Int.gcd (N) (D):Int) - 1) !=(0:Int))) (rvk (by kernel_rfl)) hg)) ?_
 refine ord_nil ?_
 refine aB _ _ ?_
 try clear aB aI
 refine wp_cond_false rfl ?_
 refine wp_skip ?_
 refine aA _ _ ?_
 try clear aA aK
 refine wp_seq_k (fun aH aC=>?_)
 refine rg [0,1,2,3] ?_
 replace L2:=(ah.lc (L2.gr au) ad).gr (aa.trans (ac.trans aj))
 refine sw 34 (.agg #[n0,n1]) rfl (rl 34 0 [n0,n1] L2) ?_
 replace L3:=(ah.lc (L3.gr au) af).gr (aa.trans (ac.trans aj))
 refine sw 35 (.agg #[d0,d1]) rfl (rl 34 0 [d0,d1] L3) ?_
 refine sv 36 (.agg #[n0,n1,d0,d1]) ?_
 refine se ?_
 replace L4:=(ah.lc (L4.gr au) ae).gr (aa.trans (ac.trans aj))
 refine es 36 0 (.agg #[n0,n1,d0,d1]) [n0,n1,d0,d1] #[n0,n1,d0,d1] L4 hB q4 ⟨hn.one0,hn.one1,hd.one0,hd.one1,trivial⟩ fun aP aF az L4 hB=>?_
 refine sq_nil ?_
 refine aC _ _ ?_
 try clear aC aH
 refine wp_ret ?_
 refine bodyPost_ret (v:=(.agg #[n0,n1,d0,d1])) (ret_cell _ _ _ rfl rfl L4 (by kernel_rfl)) rfl ⟨?_,hB⟩
 have ar:=av.kp.trans (au.kp.trans (al.trans (aa.kp.trans (ac.kp.trans (aj.kp.trans az)))))
 replace hn:=hn.kp ar
 replace hd:=hd.kp ar
 exact ⟨_,_,_,_,rfl,hn,hd⟩

set_option maxRecDepth 100000 in
set_option maxHeartbeats 1000000 in
theorem reduced_pg {k:Nat} {n0 n1 d0 d1:Value} {N D:Int} {w:World} (hn:IsInt w k n0 n1 N) (hd:IsInt w k d0 d1 D) (_hk:k+k+k+k+k+k+66≤1000000) (_h0:0<D) (hg:(sgn ((Int.gcd (N) (D):Int) - 1) !=0)=true) (hxn:0<(Int.gcd (N) (D):Int)∧(Int.gcd (N) (D):Int)∣N) (_hxd:0<(Int.gcd (N) (D):Int)∧(Int.gcd (N) (D):Int)∣D):
    Calls Tryz.prog 95 #[(.agg #[n0,n1]),(.agg #[d0,d1])] w fun e w'=>(∃ x y x2 y2,e=.returned (.agg #[x,y,x2,y2])∧IsInt w' k x y (N/(Int.gcd (N) (D):Int))∧IsInt w' k x2 y2 (D/(Int.gcd (N) (D):Int)))∧Gr w w':=by
 go_enter Tryz.func95,Tryz.ntmps95
 have hB:=Gr.refl w
 refine wp_seq_k (fun K1 k1=>?_)
 refine rg [0,1,2] ?_
 refine se ?_
 refine eb 34 #[n0,n1] 2 hB fun b2 w2 g2 L2 o2 q2 hB=>?_
 simp only [p3,p4]
 refine se ?_
 refine eb 34 #[d0,d1] 3 hB fun b3 w3 g3 L3 o3 q3 hB=>?_
 have ar:=L2.ne o3
 simp only [p3,p4]
 refine se ?_
 refine ea 36 #[(.bool false),(.slice none 0 0),(.bool false),(.slice none 0 0)] 4 hB fun b4 w4 g4 L4 o4 q4 hB=>?_
 replace L2:=L2.gr g3
 have aI:=L2.ne o4
 have aK:=L3.ne o4
 simp only [p3,p4]
 refine sq_nil ?_
 refine k1 _ _ ?_
 try clear k1 K1
 refine wp_seq_k (fun K5 k5=>?_)
 refine wp_seq_k (fun K6 k6=>?_)
 refine rg [0,1,2] ?_
 replace L3:=L3.gr g4
 refine sw 6 (.agg #[d0,d1]) rfl (rl 34 0 [d0,d1] L3) ?_
 refine se ?_
 have ba:=g2.kp.trans (g3.kp.trans g4.kp)
 replace hd:=hd.kp ba
 refine ec 7 (sign_pos hd (by omega)) ?_
 rintro e7 w7 ⟨rfl,g7⟩
 refine ⟨_,rfl,?_⟩
 replace hB:=hB.trans g7
 simp only [p3,p4]
 refine sv 8 (.bool false) ?_
 refine sq_nil ?_
 refine k6 _ _ ?_
 try clear k6 K6
 refine wp_cond_false rfl ?_
 refine wp_skip ?_
 refine k5 _ _ ?_
 try clear k5 K5
 refine wp_seq_k (fun K9 k9=>?_)
 refine rg [0,1,2,3,4] ?_
 replace L2:=L2.gr (g4.trans g7)
 refine sw 13 (.agg #[n0,n1]) rfl (rl 34 0 [n0,n1] L2) ?_
 replace L3:=L3.gr g7
 refine sw 14 (.agg #[d0,d1]) rfl (rl 34 0 [d0,d1] L3) ?_
 refine se ?_
 have aT:=g2.kp.trans (g3.kp.trans (g4.kp.trans g7.kp))
 replace hn:=hn.kp aT
 replace hd:=hd.kp g7.kp
 refine ec 15 (gcd_i hn hd (by omega)) ?_
 rintro bh bm ⟨⟨aj,ak,rfl,ai⟩,aE⟩
 refine ⟨_,rfl,?_⟩
 replace hB:=hB.trans aE
 simp only [p3,p4]
 refine se ?_
 refine ea 34 #[(.bool false),(.slice none 0 0)] 5 hB fun a3 bi aD ab aR q12 hB=>?_
 replace L2:=L2.gr aE
 have ah:=L2.ne aR
 replace L3:=L3.gr aE
 have az:=L3.ne aR
 replace L4:=L4.gr (g7.trans aE)
 have ay:=L4.ne aR
 simp only [p3,p4]
 refine se ?_
 refine es 34 0 (.agg #[aj,ak]) [aj,ak] #[aj,ak] ab hB q12 ⟨ai.one0,ai.one1,trivial⟩ fun a6 aC av ab hB=>?_
 refine sq_nil ?_
 refine k9 _ _ ?_
 try clear k9 K9
 refine wp_seq_k (fun bb aX=>?_)
 refine wp_seq_k (fun a9 aY=>?_)
 have aa:=Gr.drew a6
 replace hB:=hB.trans aa
 replace ab:=ab.gr aa
 refine wp_region_ord (fun w'=>Lc w' a3 #[aj,ak] 34) [(true,0),(false,1),(false,2),(true,3)] (by kernel_rfl) (by kernel_rfl) (by kernel_rfl) (by decide) (fun _ _ _ _ _ h=>h) ab ?_
 refine ow 16 (.agg #[aj,ak]) rfl (fun w' hS=>(rl 34 0 [aj,ak] hS)) ?_
 refine oe ?_
 refine ec 17 (one_i _) ?_
 rintro bq bu ⟨⟨bn,bg,rfl,a2⟩,aq⟩
 refine ⟨_,rfl,?_⟩
 replace hB:=hB.trans aq
 replace ab:=ab.gr aq
 refine ⟨ab,?_⟩
 simp only [p3,p4]
 refine oe ?_
 have aU:=aD.kp.trans (av.trans (aa.kp.trans aq.kp))
 replace ai:=ai.kp aU
 refine ec 18 (compare_i ai a2 (by omega) (by omega)) ?_
 rintro bj bp ⟨rfl,al⟩
 refine ⟨_,rfl,?_⟩
 replace hB:=hB.trans al
 replace ab:=ab.gr al
 refine ⟨ab,?_⟩
 simp only [p3,p4]
 refine ow 19 (.bool true) rfl (fun w' hS=>(RunV.bool (x:=(sgn ((Int.gcd (N) (D):Int) - 1) !=(0:Int))) (rvk (by kernel_rfl)) hg)) ?_
 refine ord_nil ?_
 refine aY _ _ ?_
 try clear aY a9
 refine wp_cond_true rfl ?_
 refine wp_seq_k (fun a7 a0=>?_)
 refine rg [0,1,2,3,4,5,6,7] ?_
 replace L2:=(aC.lc (L2.gr aD) ah).gr (aa.trans (aq.trans al))
 refine sw 21 (.agg #[n0,n1]) rfl (rl 34 0 [n0,n1] L2) ?_
 refine sw 22 (.agg #[aj,ak]) rfl (rl 34 0 [aj,ak] ab) ?_
 refine se ?_
 have aV:=aE.kp.trans (aD.kp.trans (av.trans (aa.kp.trans (aq.kp.trans al.kp))))
 replace hn:=hn.kp aV
 replace ai:=ai.kp al.kp
 refine ec 23 (divmod_i hn ai hxn.1 (by omega)) ?_
 rintro bf bk ⟨⟨ad,ac,aH,aJ,rfl,ax,a5⟩,aw⟩
 refine ⟨_,rfl,?_⟩
 replace hB:=hB.trans aw
 simp only [p3,p4]
 refine sv 20 (.tuple #[(.agg #[ad,ac]),(.agg #[aH,aJ]),(.int .i64 0)]) ?_
 refine sv 24 (.agg #[ad,ac]) ?_
 refine sv 25 (.agg #[aH,aJ]) ?_
 refine sv 26 (.int .i64 0) ?_
 refine se ?_
 replace L2:=L2.gr aw
 refine es 34 0 (.agg #[ad,ac]) [ad,ac] #[ad,ac] L2 hB q2 ⟨ax.one0,ax.one1,trivial⟩ fun bc au aB L2 hB=>?_
 refine sq_nil ?_
 refine a0 _ _ ?_
 try clear a0 a7
 refine rg [0,1,2,3,4,5,6,7] ?_
 replace L3:=au.lc ((aC.lc (L3.gr aD) az).gr (aa.trans (aq.trans (al.trans aw)))) (Ne.symm ar)
 refine sw 28 (.agg #[d0,d1]) rfl (rl 34 0 [d0,d1] L3) ?_
 replace ab:=au.lc (ab.gr aw) (Ne.symm ah)
 refine sw 29 (.agg #[aj,ak]) rfl (rl 34 0 [aj,ak] ab) ?_
 refine se ?_
 have aW:=aE.kp.trans (aD.kp.trans (av.trans (aa.kp.trans (aq.kp.trans (al.kp.trans (aw.kp.trans aB))))))
 replace hd:=hd.kp aW
 have aQ:=aw.kp.trans aB
 replace ai:=ai.kp aQ
 refine ec 30 (divmod_i hd ai hxn.1 (by omega)) ?_
 rintro e32 bd ⟨⟨ae,af,aF,aO,rfl,aA,a8⟩,aL⟩
 refine ⟨_,rfl,?_⟩
 replace hB:=hB.trans aL
 simp only [p3,p4]
 refine sv 27 (.tuple #[(.agg #[ae,af]),(.agg #[aF,aO]),(.int .i64 0)]) ?_
 refine sv 31 (.agg #[ae,af]) ?_
 refine sv 32 (.agg #[aF,aO]) ?_
 refine sv 33 (.int .i64 0) ?_
 refine se ?_
 replace L3:=L3.gr aL
 refine es 34 0 (.agg #[ae,af]) [ae,af] #[ae,af] L3 hB q3 ⟨aA.one0,aA.one1,trivial⟩ fun bo aG aN L3 hB=>?_
 refine sq_nil ?_
 refine aX _ _ ?_
 try clear aX bb
 refine wp_seq_k (fun a4 aZ=>?_)
 refine rg [0,1,2,3] ?_
 replace L2:=aG.lc (L2.gr aL) ar
 refine sw 34 (.agg #[ad,ac]) rfl (rl 34 0 [ad,ac] L2) ?_
 refine sw 35 (.agg #[ae,af]) rfl (rl 34 0 [ae,af] L3) ?_
 refine sv 36 (.agg #[ad,ac,ae,af]) ?_
 refine se ?_
 replace L4:=aG.lc ((au.lc ((aC.lc (L4.gr aD) ay).gr (aa.trans (aq.trans (al.trans aw)))) (Ne.symm aI)).gr aL) (Ne.symm aK)
 refine es 36 0 (.agg #[ad,ac,ae,af]) [ad,ac,ae,af] #[ad,ac,ae,af] L4 hB q4 ⟨ax.one0,ax.one1,aA.one0,aA.one1,trivial⟩ fun bt a1 aM L4 hB=>?_
 refine sq_nil ?_
 refine aZ _ _ ?_
 try clear aZ a4
 refine wp_ret ?_
 refine bodyPost_ret (v:=(.agg #[ad,ac,ae,af])) (ret_cell _ _ _ rfl rfl L4 (by kernel_rfl)) rfl ⟨?_,hB⟩
 have aS:=aB.trans (aL.kp.trans (aN.trans aM))
 replace ax:=ax.kp aS
 have aP:=aN.trans aM
 replace aA:=aA.kp aP
 exact ⟨_,_,_,_,rfl,ax,aA⟩

end Go.Proofs.YtaldbfflkpgfoaaGreatDoor
/- The contracts on rationals that the printed walks use. -/
namespace Go.Proofs.YtaldbfflkpgfoaaGreatDoor
open Go.RowKit

theorem sgn_eq_zero {z:Int}:sgn z=0↔z=0:=by
  unfold sgn
  by_cases h:z<0
  · rw [if_pos h];omega
  · rw [if_neg h]
    by_cases h2:z=0
    · simp [h2]
    · rw [if_neg h2];omega
theorem whole_i {k:Nat} {c0 c1 c2 c3:Value} {q:Rat} {w:World} (h:IsRat w k c0 c1 c2 c3 q) (hk:k≤1000000):
    Calls Tryz.prog 78 #[.agg #[c0,c1,c2,c3]] w fun e w'=>e=.returned (.bool (decide (q.den=1)))∧Gr w w':=by
  obtain ⟨D,h2,h3⟩:=h.den
  have hp:=q.den_pos
  rcases h3 with h3 | ⟨h3,h4⟩
  · have e:(sgn (D - 1)==0)=decide (q.den=1):=by
      rw [Bool.eq_iff_iff,beq_iff_eq,sgn_eq_zero,decide_eq_true_iff];omega
    have:=whole_p (c0:=c0) (c1:=c1) h2 (by omega) hk
    rw [e] at this
    exact this
  · subst h3
    have e:decide (q.den=1)=true:=by simpa using h4
    rw [e]
    exact whole_z h2
theorem whole_t {k:Nat} {c0 c1 c2 c3:Value} {q:Rat} {w:World} (h:IsRat w k c0 c1 c2 c3 q) (hk:k≤1000000) (hq:q.den=1):
    Calls Tryz.prog 78 #[.agg #[c0,c1,c2,c3]] w fun e w'=>e=.returned (.bool true)∧Gr w w':=by
  have:=whole_i h hk
  rw [decide_eq_true hq] at this
  exact this
theorem whole_f {k:Nat} {c0 c1 c2 c3:Value} {q:Rat} {w:World} (h:IsRat w k c0 c1 c2 c3 q) (hk:k≤1000000) (hq:q.den≠1):
    Calls Tryz.prog 78 #[.agg #[c0,c1,c2,c3]] w fun e w'=>e=.returned (.bool false)∧Gr w w':=by
  have:=whole_i h hk
  rw [decide_eq_false hq] at this
  exact this
theorem den_i {k:Nat} {c0 c1 c2 c3:Value} {q:Rat} {w:World} (h:IsRat w k c0 c1 c2 c3 q):
    Calls Tryz.prog 81 #[.agg #[c0,c1,c2,c3]] w fun e w'=>(∃ x' y',e=.returned (.agg #[x',y'])∧IsInt w' k x' y' (q.den:Int))∧Gr w w':=by
  obtain ⟨D,h2,h3⟩:=h.den
  have hp:=q.den_pos
  rcases h3 with h3 | ⟨h3,h4⟩
  · subst h3
    exact den_p h2 (by omega)
  · subst h3
    refine (den_z (c0:=c0) (c1:=c1) h2).mono ?_
    rintro e w1 ⟨⟨x,y,he,hi⟩,g⟩
    rw [h4]
    exact ⟨⟨x,y,he,hi.mono h.big⟩,g⟩
theorem add_e {k m:Nat} (n:Nat) {x y x2 y2:Value} {z u:Int} {w:World} (hz:IsInt w k x y z) (hu:IsInt w m x2 y2 u) (h1:k≤n) (h2:m≤n) (hk:2*n+1≤1000000):
    Calls Tryz.prog 129 #[.agg #[x,y],.agg #[x2,y2]] w fun e w'=>(∃ x' y',e=.returned (.agg #[x',y'])∧IsInt w' (n+1) x' y' (z+u))∧Gr w w':=by
  refine (add_i (hz.mono h1) (hu.mono h2) (by omega)).mono ?_
  rintro e w1 ⟨⟨x,y,he,hi⟩,g⟩
  exact ⟨⟨x,y,he,hi.resz ((hz.sz.mono h1).add' (hu.sz.mono h2))⟩,g⟩

theorem reduced_i {k m:Nat} (K:Nat) {n0 n1 d0 d1:Value} {N D:Int} {w:World} (hn:IsInt w k n0 n1 N) (hd:IsInt w m d0 d1 D) (h0:0<D) (h1:k≤K) (h2:m≤K) (h3:64≤K) (h4:8*K≤1000000):
    Calls Tryz.prog 95 #[.agg #[n0,n1],.agg #[d0,d1]] w fun e w'=>(∃ c0 c1 c2 c3,e=.returned (.agg #[c0,c1,c2,c3])∧IsRat w' K c0 c1 c2 c3 (Rat.divInt N D))∧Gr w w':=by
  have hN:=hn.mono h1
  have hD:=hd.mono h2
  have en:(Rat.divInt N D).num=N/(Int.gcd N D:Int):=by
    rw [Rat.num_divInt,Int.sign_eq_one_of_pos h0,Int.one_mul,Int.gcd_comm]
  have ed:((Rat.divInt N D).den:Int)=D/(Int.gcd N D:Int):=by
    rw [Rat.den_divInt,if_neg (by omega),Int.gcd_comm,Int.natCast_ediv]
    congr 1
    omega
  have ab:0<(Int.gcd N D:Int):=by
    have:Int.gcd N D≠0:=by rw [Ne,Int.gcd_eq_zero_iff];omega
    omega
  by_cases hg:(Int.gcd N D:Int)=1
  · refine (reduced_p1 hN hD (by omega) h0 (by rw [hg];rfl)).mono ?_
    rintro e w1 ⟨⟨x,y,x2,y2,he,hi,aa⟩,g⟩
    rw [hg,Int.ediv_one] at en ed
    exact ⟨⟨x,y,x2,y2,he,by rw [en];exact hi,⟨D,aa,.inl ed.symm⟩,h3⟩,g⟩
  · have hb:(sgn ((Int.gcd N D:Int) - 1) !=0)=true:=by
      have:sgn ((Int.gcd N D:Int) - 1)≠0:=fun h=>hg (by have:=sgn_eq_zero.1 h;omega)
      simpa using this
    refine (reduced_pg hN hD (by omega) h0 hb ⟨ab,Int.gcd_dvd_left ..⟩ ⟨ab,Int.gcd_dvd_right ..⟩).mono ?_
    rintro e w1 ⟨⟨x,y,x2,y2,he,hi,aa⟩,g⟩
    exact ⟨⟨x,y,x2,y2,he,by rw [en];exact hi,⟨_,aa,.inl ed.symm⟩,h3⟩,g⟩

theorem rat_add (a b:Rat):Rat.divInt (a.num*b.den+b.num*a.den) (a.den*b.den)=a+b:=by
  have:=Rat.divInt_add_divInt a.num b.num (d₁:=a.den) (d₂:=b.den) (by have:=a.den_pos;omega) (by have:=b.den_pos;omega)
  rw [Rat.num_divInt_den,Rat.num_divInt_den] at this
  exact this.symm
theorem rat_mul (a b:Rat):Rat.divInt (a.num*b.num) (a.den*b.den)=a*b:=by
  have:=Rat.divInt_mul_divInt a.num b.num (d₁:=a.den) (d₂:=b.den)
  rw [Rat.num_divInt_den,Rat.num_divInt_den] at this
  exact this.symm
theorem rat_int {q:Rat} (h:q.den=1):((q.num:Int):Rat)=q:=by
  apply Rat.ext
  · exact Rat.num_intCast _
  · rw [h];exact Rat.den_intCast _
theorem rat_div (a b:Rat):Rat.divInt (a.num*b.den) (a.den*b.num)=a/b:=by
  rw [Rat.div_def,Rat.inv_def]
  have:=Rat.divInt_mul_divInt a.num b.den (d₁:=a.den) (d₂:=b.num)
  rw [Rat.num_divInt_den] at this
  exact this.symm
theorem IsRat.neg {w:World} {k:Nat} {c0 c1 c2 c3 x y:Value} {q:Rat} (h:IsRat w k c0 c1 c2 c3 q) (hi:IsInt w k x y (-q.num)):IsRat w k x y c2 c3 (-q):=by
  obtain ⟨D,h2,h3⟩:=h.den
  exact ⟨hi,⟨D,h2,h3⟩,h.big⟩
/-- the order of two rationals -/
def rcmp (a b:Rat):Int:=sgn (a.num*b.den - b.num*a.den)
theorem rcmp_int {a b:Rat} (ha:a.den=1) (hb:b.den=1):rcmp a b=sgn (a.num - b.num):=by
  unfold rcmp;rw [ha,hb];simp
theorem rcmp_zero {a b:Rat}:rcmp a b=0↔a=b:=by
  unfold rcmp
  rw [sgn_eq_zero]
  constructor
  · intro h
    rw [← Rat.num_divInt_den a,← Rat.num_divInt_den b]
    rw [Rat.divInt_eq_divInt_iff (by have:=a.den_pos;omega) (by have:=b.den_pos;omega)]
    omega
  · rintro rfl;omega
end Go.Proofs.YtaldbfflkpgfoaaGreatDoor
/- Printed by a program of the prover's:the operations on rationals. -/
namespace Go.Proofs.YtaldbfflkpgfoaaGreatDoor
open Go.RowKit

set_option maxRecDepth 100000 in
set_option maxHeartbeats 1000000 in
theorem add_tt {k m:Nat} {u0 u1 u2 u3 v0 v1 v2 v3:Value} {a b:Rat} {w:World} (ha:IsRat w k u0 u1 u2 u3 a) (hb:IsRat w m v0 v1 v2 v3 b) (_hk:k+m≤100000) (wa:a.den=1) (wb:b.den=1):
    Calls Tryz.prog 103 #[(.agg #[u0,u1,u2,u3]),(.agg #[v0,v1,v2,v3])] w fun e w'=>(∃ c0 c1 c2 c3,e=.returned (.agg #[c0,c1,c2,c3])∧IsRat w' (k+m+1) c0 c1 c2 c3 (a+b))∧Gr w w':=by
 have hka:=ha.big
 have hkb:=hb.big
 go_enter Tryz.func103,Tryz.ntmps103
 have hB:=Gr.refl w
 refine wp_seq_k (fun K1 k1=>?_)
 refine rg [0,1,2] ?_
 refine se ?_
 refine eb 36 #[u0,u1,u2,u3] 2 hB fun b2 w2 g2 L2 o2 q2 hB=>?_
 simp only [p3,p4]
 refine se ?_
 refine eb 36 #[v0,v1,v2,v3] 3 hB fun b3 w3 g3 L3 o3 q3 hB=>?_
 simp only [p3,p4]
 refine se ?_
 refine ea 36 #[(.bool false),(.slice none 0 0),(.bool false),(.slice none 0 0)] 4 hB fun b4 w4 g4 L4 o4 q4 hB=>?_
 replace L2:=L2.gr g3
 simp only [p3,p4]
 refine sq_nil ?_
 refine k1 _ _ ?_
 try clear k1 K1
 refine wp_seq_k (fun K5 k5=>?_)
 refine wp_seq_k (fun K6 k6=>?_)
 refine rg [0,1,2,3,4,5] ?_
 replace L2:=L2.gr g4
 refine sw 5 (.agg #[u0,u1,u2,u3]) rfl (rl 36 0 [u0,u1,u2,u3] L2) ?_
 refine se ?_
 have al:=g2.kp.trans (g3.kp.trans g4.kp)
 replace ha:=ha.kp al
 refine ec 6 (whole_t ha (by omega) wa) ?_
 rintro e7 w7 ⟨rfl,g7⟩
 refine ⟨_,rfl,?_⟩
 replace hB:=hB.trans g7
 simp only [p3,p4]
 refine sv 7 (.bool true) ?_
 replace L3:=L3.gr (g4.trans g7)
 refine sw 8 (.agg #[v0,v1,v2,v3]) rfl (rl 36 0 [v0,v1,v2,v3] L3) ?_
 refine se ?_
 have ad:=g2.kp.trans (g3.kp.trans (g4.kp.trans g7.kp))
 replace hb:=hb.kp ad
 refine ec 9 (whole_t hb (by omega) wb) ?_
 rintro e9 w9 ⟨rfl,g9⟩
 refine ⟨_,rfl,?_⟩
 replace hB:=hB.trans g9
 simp only [p3,p4]
 refine sv 10 (.bool true) ?_
 refine sq_nil ?_
 refine k6 _ _ ?_
 try clear k6 K6
 refine wp_cond_true rfl ?_
 refine wp_seq_k (fun aj ah=>?_)
 refine rg [0,1,2,3,4,5,6] ?_
 refine sv 11 (.pointer (some ⟨b2,0,none⟩)) ?_
 replace L2:=L2.gr (g7.trans g9)
 refine sw 12 (.agg #[u0,u1]) rfl (rl 34 0 [u0,u1] L2) ?_
 refine sv 13 (.pointer (some ⟨b3,0,none⟩)) ?_
 replace L3:=L3.gr g9
 refine sw 14 (.agg #[v0,v1]) rfl (rl 34 0 [v0,v1] L3) ?_
 refine se ?_
 have af:=g7.kp.trans g9.kp
 replace ha:=ha.kp af
 replace hb:=hb.kp g9.kp
 refine ec 15 (add_e (k+m) ha.num hb.num (by omega) (by omega) (by omega)) ?_
 rintro e12 ar ⟨⟨ab,aa,rfl,ac⟩,ai⟩
 refine ⟨_,rfl,?_⟩
 replace hB:=hB.trans ai
 simp only [p3,p4]
 refine sv 16 (.agg #[ab,aa,(.bool false),(.slice none 0 0)]) ?_
 refine se ?_
 replace L4:=L4.gr (g7.trans (g9.trans ai))
 refine es 36 0 (.agg #[ab,aa,(.bool false),(.slice none 0 0)]) [ab,aa,(.bool false),(.slice none 0 0)] #[ab,aa,(.bool false),(.slice none 0 0)] L4 hB q4 ⟨ac.one0,ac.one1,rfl,rfl,trivial⟩ fun aq ak ae L4 hB=>?_
 refine sq_nil ?_
 refine ah _ _ ?_
 try clear ah aj
 refine wp_ret ?_
 simp only [Exit.then]
 refine bodyPost_ret (v:=(.agg #[ab,aa,(.bool false),(.slice none 0 0)])) (ret_cell _ _ _ rfl rfl L4 (by kernel_rfl)) rfl ⟨?_,hB⟩
 replace ac:=ac.kp ae
 exact ⟨_,_,_,_,rfl,by rw [← rat_int wa,← rat_int wb,← Rat.intCast_add];exact IsRat.int ac (by omega)⟩

set_option maxRecDepth 100000 in
set_option maxHeartbeats 1000000 in
theorem add_tf {k m:Nat} {u0 u1 u2 u3 v0 v1 v2 v3:Value} {a b:Rat} {w:World} (ha:IsRat w k u0 u1 u2 u3 a) (hb:IsRat w m v0 v1 v2 v3 b) (_hk:k+m≤100000) (wa:a.den=1) (wb:b.den≠1):
    Calls Tryz.prog 103 #[(.agg #[u0,u1,u2,u3]),(.agg #[v0,v1,v2,v3])] w fun e w'=>(∃ c0 c1 c2 c3,e=.returned (.agg #[c0,c1,c2,c3])∧IsRat w' (k+m+1) c0 c1 c2 c3 (a+b))∧Gr w w':=by
 have hka:=ha.big
 have hkb:=hb.big
 go_enter Tryz.func103,Tryz.ntmps103
 have hB:=Gr.refl w
 refine wp_seq_k (fun K1 k1=>?_)
 refine rg [0,1,2] ?_
 refine se ?_
 refine eb 36 #[u0,u1,u2,u3] 2 hB fun b2 w2 g2 L2 o2 q2 hB=>?_
 simp only [p3,p4]
 refine se ?_
 refine eb 36 #[v0,v1,v2,v3] 3 hB fun b3 w3 g3 L3 o3 q3 hB=>?_
 simp only [p3,p4]
 refine se ?_
 refine ea 36 #[(.bool false),(.slice none 0 0),(.bool false),(.slice none 0 0)] 4 hB fun b4 w4 g4 L4 o4 q4 hB=>?_
 replace L2:=L2.gr g3
 have al:=L2.ne o4
 have ar:=L3.ne o4
 simp only [p3,p4]
 refine sq_nil ?_
 refine k1 _ _ ?_
 try clear k1 K1
 refine wp_seq_k (fun K5 k5=>?_)
 refine wp_seq_k (fun K6 k6=>?_)
 refine rg [0,1,2,3,4,5] ?_
 replace L2:=L2.gr g4
 refine sw 5 (.agg #[u0,u1,u2,u3]) rfl (rl 36 0 [u0,u1,u2,u3] L2) ?_
 refine se ?_
 have aR:=g2.kp.trans (g3.kp.trans g4.kp)
 replace ha:=ha.kp aR
 refine ec 6 (whole_t ha (by omega) wa) ?_
 rintro e7 w7 ⟨rfl,g7⟩
 refine ⟨_,rfl,?_⟩
 replace hB:=hB.trans g7
 simp only [p3,p4]
 refine sv 7 (.bool true) ?_
 replace L3:=L3.gr (g4.trans g7)
 refine sw 8 (.agg #[v0,v1,v2,v3]) rfl (rl 36 0 [v0,v1,v2,v3] L3) ?_
 refine se ?_
 have aG:=g2.kp.trans (g3.kp.trans (g4.kp.trans g7.kp))
 replace hb:=hb.kp aG
 refine ec 9 (whole_f hb (by omega) wb) ?_
 rintro e9 w9 ⟨rfl,g9⟩
 refine ⟨_,rfl,?_⟩
 replace hB:=hB.trans g9
 simp only [p3,p4]
 refine sv 10 (.bool false) ?_
 refine sq_nil ?_
 refine k6 _ _ ?_
 try clear k6 K6
 refine wp_cond_false rfl ?_
 refine wp_skip ?_
 refine k5 _ _ ?_
 try clear k5 K5
 refine wp_seq_k (fun aP aL=>?_)
 have aa:=Gr.drew w9
 replace hB:=hB.trans aa
 replace L2:=L2.gr (g7.trans (g9.trans aa))
 replace L3:=L3.gr (g9.trans aa)
 refine wp_region_ord (fun w'=>Lc w' b2 #[u0,u1,u2,u3] 36∧Lc w' b3 #[v0,v1,v2,v3] 36) [(true,0),(true,1),(true,2),(true,5),(true,6),(true,7),(true,11),(true,13),(false,3),(false,4),(false,8),(false,9),(false,10),(false,12),(false,14),(false,15),(false,16),(false,17)] (by kernel_rfl) (by kernel_rfl) (by kernel_rfl) (by decide) (fun _ _ _ _ _ h=>h) ⟨L2,L3⟩ ?_
 refine ov 17 (.pointer (some ⟨b2,0,none⟩)) ?_
 refine ow 18 (.agg #[u0,u1]) rfl (fun w' hS=>(rl 34 0 [u0,u1] hS.1)) ?_
 refine ow 19 (.agg #[v0,v1,v2,v3]) rfl (fun w' hS=>(rl 36 0 [v0,v1,v2,v3] hS.2)) ?_
 refine ov 22 (.pointer (some ⟨b3,0,none⟩)) ?_
 refine ow 23 (.agg #[v0,v1]) rfl (fun w' hS=>(rl 34 0 [v0,v1] hS.2)) ?_
 refine ow 24 (.agg #[u0,u1,u2,u3]) rfl (fun w' hS=>(rl 36 0 [u0,u1,u2,u3] hS.1)) ?_
 refine ow 28 (.agg #[u0,u1,u2,u3]) rfl (fun w' hS=>(rl 36 0 [u0,u1,u2,u3] hS.1)) ?_
 refine ow 30 (.agg #[v0,v1,v2,v3]) rfl (fun w' hS=>(rl 36 0 [v0,v1,v2,v3] hS.2)) ?_
 refine oe ?_
 have aI:=g9.kp.trans aa.kp
 replace hb:=hb.kp aI
 refine ec 20 (den_i hb) ?_
 rintro aU a5 ⟨⟨aV,bk,rfl,aO⟩,aj⟩
 refine ⟨_,rfl,?_⟩
 replace hB:=hB.trans aj
 replace L2:=L2.gr aj
 replace L3:=L3.gr aj
 refine ⟨⟨L2,L3⟩,?_⟩
 simp only [p3,p4]
 refine oe ?_
 have aC:=g7.kp.trans (g9.kp.trans (aa.kp.trans aj.kp))
 replace ha:=ha.kp aC
 refine ec 21 (mul_i ha.num aO (by omega)) ?_
 rintro aZ a0 ⟨⟨bm,bu,rfl,aH⟩,ah⟩
 refine ⟨_,rfl,?_⟩
 replace hB:=hB.trans ah
 replace L2:=L2.gr ah
 replace L3:=L3.gr ah
 refine ⟨⟨L2,L3⟩,?_⟩
 simp only [p3,p4]
 refine oe ?_
 replace ha:=ha.kp ah.kp
 refine ec 25 (den_i ha) ?_
 rintro bf bv ⟨⟨a2,a4,rfl,aM⟩,ab⟩
 refine ⟨_,rfl,?_⟩
 replace hB:=hB.trans ab
 replace L2:=L2.gr ab
 replace L3:=L3.gr ab
 refine ⟨⟨L2,L3⟩,?_⟩
 simp only [p3,p4]
 refine oe ?_
 have az:=aj.kp.trans (ah.kp.trans ab.kp)
 replace hb:=hb.kp az
 refine ec 26 (mul_i hb.num aM (by omega)) ?_
 rintro bd a8 ⟨⟨a3,aT,rfl,aS⟩,ac⟩
 refine ⟨_,rfl,?_⟩
 replace hB:=hB.trans ac
 replace L2:=L2.gr ac
 replace L3:=L3.gr ac
 refine ⟨⟨L2,L3⟩,?_⟩
 simp only [p3,p4]
 refine oe ?_
 have aF:=ab.kp.trans ac.kp
 replace aH:=aH.kp aF
 refine ec 27 (add_e (k+m) aH aS (by omega) (by omega) (by omega)) ?_
 rintro bb bj ⟨⟨bg,bn,rfl,aE⟩,ai⟩
 refine ⟨_,rfl,?_⟩
 replace hB:=hB.trans ai
 replace L2:=L2.gr ai
 replace L3:=L3.gr ai
 refine ⟨⟨L2,L3⟩,?_⟩
 simp only [p3,p4]
 refine oe ?_
 have aB:=ab.kp.trans (ac.kp.trans ai.kp)
 replace ha:=ha.kp aB
 refine ec 29 (den_i ha) ?_
 rintro a9 aW ⟨⟨aX,bq,rfl,aD⟩,ae⟩
 refine ⟨_,rfl,?_⟩
 replace hB:=hB.trans ae
 replace L2:=L2.gr ae
 replace L3:=L3.gr ae
 refine ⟨⟨L2,L3⟩,?_⟩
 simp only [p3,p4]
 refine oe ?_
 have aK:=ac.kp.trans (ai.kp.trans ae.kp)
 replace hb:=hb.kp aK
 refine ec 31 (den_i hb) ?_
 rintro bo bi ⟨⟨ba,aY,rfl,aQ⟩,af⟩
 refine ⟨_,rfl,?_⟩
 replace hB:=hB.trans af
 replace L2:=L2.gr af
 replace L3:=L3.gr af
 refine ⟨⟨L2,L3⟩,?_⟩
 simp only [p3,p4]
 refine oe ?_
 replace aD:=aD.kp af.kp
 refine ec 32 (mul_i aD aQ (by omega)) ?_
 rintro bp a7 ⟨⟨bt,a6,rfl,aN⟩,ak⟩
 refine ⟨_,rfl,?_⟩
 replace hB:=hB.trans ak
 replace L2:=L2.gr ak
 replace L3:=L3.gr ak
 refine ⟨⟨L2,L3⟩,?_⟩
 simp only [p3,p4]
 refine oe ?_
 have aJ:=ae.kp.trans (af.kp.trans ak.kp)
 replace aE:=aE.kp aJ
 refine ec 33 (reduced_i ((k+m+1)) aE aN (Int.mul_pos (Int.natCast_pos.2 a.den_pos) (Int.natCast_pos.2 b.den_pos)) (by omega) (by omega) (by omega) (by omega)) ?_
 rintro bc bh ⟨⟨aw,au,ax,ay,rfl,ad⟩,av⟩
 refine ⟨_,rfl,?_⟩
 replace hB:=hB.trans av
 replace L2:=L2.gr av
 replace L3:=L3.gr av
 refine ⟨⟨L2,L3⟩,?_⟩
 simp only [p3,p4]
 refine oe ?_
 replace L4:=L4.gr (g7.trans (g9.trans (aa.trans (aj.trans (ah.trans (ab.trans (ac.trans (ai.trans (ae.trans (af.trans (ak.trans av)))))))))))
 refine es 36 0 (.agg #[aw,au,ax,ay]) [aw,au,ax,ay] #[aw,au,ax,ay] L4 hB q4 ⟨ad.one0,ad.one1,ad.one2,ad.one3,trivial⟩ fun a1 aq aA L4 hB=>?_
 replace L2:=aq.lc L2 al
 replace L3:=aq.lc L3 ar
 refine ⟨⟨L2,L3⟩,?_⟩
 refine ord_nil ?_
 refine aL _ _ ?_
 try clear aL aP
 refine wp_ret ?_
 refine bodyPost_ret (v:=(.agg #[aw,au,ax,ay])) (ret_cell _ _ _ rfl rfl L4 (by kernel_rfl)) rfl ⟨?_,hB⟩
 replace ad:=ad.kp aA
 exact ⟨_,_,_,_,rfl,by rw [← rat_add];exact ad⟩

set_option maxRecDepth 100000 in
set_option maxHeartbeats 1000000 in
theorem add_f {k m:Nat} {u0 u1 u2 u3 v0 v1 v2 v3:Value} {a b:Rat} {w:World} (ha:IsRat w k u0 u1 u2 u3 a) (hb:IsRat w m v0 v1 v2 v3 b) (_hk:k+m≤100000) (wa:a.den≠1):
    Calls Tryz.prog 103 #[(.agg #[u0,u1,u2,u3]),(.agg #[v0,v1,v2,v3])] w fun e w'=>(∃ c0 c1 c2 c3,e=.returned (.agg #[c0,c1,c2,c3])∧IsRat w' (k+m+1) c0 c1 c2 c3 (a+b))∧Gr w w':=by
 have hka:=ha.big
 have hkb:=hb.big
 go_enter Tryz.func103,Tryz.ntmps103
 have hB:=Gr.refl w
 refine wp_seq_k (fun K1 k1=>?_)
 refine rg [0,1,2] ?_
 refine se ?_
 refine eb 36 #[u0,u1,u2,u3] 2 hB fun b2 w2 g2 L2 o2 q2 hB=>?_
 simp only [p3,p4]
 refine se ?_
 refine eb 36 #[v0,v1,v2,v3] 3 hB fun b3 w3 g3 L3 o3 q3 hB=>?_
 simp only [p3,p4]
 refine se ?_
 refine ea 36 #[(.bool false),(.slice none 0 0),(.bool false),(.slice none 0 0)] 4 hB fun b4 w4 g4 L4 o4 q4 hB=>?_
 replace L2:=L2.gr g3
 have al:=L2.ne o4
 have aq:=L3.ne o4
 simp only [p3,p4]
 refine sq_nil ?_
 refine k1 _ _ ?_
 try clear k1 K1
 refine wp_seq_k (fun K5 k5=>?_)
 refine wp_seq_k (fun K6 k6=>?_)
 refine rg [0,1,2,3,4,5] ?_
 replace L2:=L2.gr g4
 refine sw 5 (.agg #[u0,u1,u2,u3]) rfl (rl 36 0 [u0,u1,u2,u3] L2) ?_
 refine se ?_
 have aO:=g2.kp.trans (g3.kp.trans g4.kp)
 replace ha:=ha.kp aO
 refine ec 6 (whole_f ha (by omega) wa) ?_
 rintro e7 w7 ⟨rfl,g7⟩
 refine ⟨_,rfl,?_⟩
 replace hB:=hB.trans g7
 simp only [p3,p4]
 refine sv 7 (.bool false) ?_
 refine ss 8 ?_
 refine ss 9 ?_
 refine sv 10 (.bool false) ?_
 refine sq_nil ?_
 refine k6 _ _ ?_
 try clear k6 K6
 refine wp_cond_false rfl ?_
 refine wp_skip ?_
 refine k5 _ _ ?_
 try clear k5 K5
 refine wp_seq_k (fun K9 k9=>?_)
 have aa:=Gr.drew w7
 replace hB:=hB.trans aa
 replace L2:=L2.gr (g7.trans aa)
 replace L3:=L3.gr (g4.trans (g7.trans aa))
 refine wp_region_ord (fun w'=>Lc w' b2 #[u0,u1,u2,u3] 36∧Lc w' b3 #[v0,v1,v2,v3] 36) [(true,0),(true,1),(true,2),(true,5),(true,6),(true,7),(true,11),(true,13),(false,3),(false,4),(false,8),(false,9),(false,10),(false,12),(false,14),(false,15),(false,16),(false,17)] (by kernel_rfl) (by kernel_rfl) (by kernel_rfl) (by decide) (fun _ _ _ _ _ h=>h) ⟨L2,L3⟩ ?_
 refine ov 17 (.pointer (some ⟨b2,0,none⟩)) ?_
 refine ow 18 (.agg #[u0,u1]) rfl (fun w' hS=>(rl 34 0 [u0,u1] hS.1)) ?_
 refine ow 19 (.agg #[v0,v1,v2,v3]) rfl (fun w' hS=>(rl 36 0 [v0,v1,v2,v3] hS.2)) ?_
 refine ov 22 (.pointer (some ⟨b3,0,none⟩)) ?_
 refine ow 23 (.agg #[v0,v1]) rfl (fun w' hS=>(rl 34 0 [v0,v1] hS.2)) ?_
 refine ow 24 (.agg #[u0,u1,u2,u3]) rfl (fun w' hS=>(rl 36 0 [u0,u1,u2,u3] hS.1)) ?_
 refine ow 28 (.agg #[u0,u1,u2,u3]) rfl (fun w' hS=>(rl 36 0 [u0,u1,u2,u3] hS.1)) ?_
 refine ow 30 (.agg #[v0,v1,v2,v3]) rfl (fun w' hS=>(rl 36 0 [v0,v1,v2,v3] hS.2)) ?_
 refine oe ?_
 have aC:=g2.kp.trans (g3.kp.trans (g4.kp.trans (g7.kp.trans aa.kp)))
 replace hb:=hb.kp aC
 refine ec 20 (den_i hb) ?_
 rintro bj bh ⟨⟨a7,bm,rfl,aL⟩,af⟩
 refine ⟨_,rfl,?_⟩
 replace hB:=hB.trans af
 replace L2:=L2.gr af
 replace L3:=L3.gr af
 refine ⟨⟨L2,L3⟩,?_⟩
 simp only [p3,p4]
 refine oe ?_
 have aB:=g7.kp.trans (aa.kp.trans af.kp)
 replace ha:=ha.kp aB
 refine ec 21 (mul_i ha.num aL (by omega)) ?_
 rintro a2 bi ⟨⟨bd,aW,rfl,aF⟩,aj⟩
 refine ⟨_,rfl,?_⟩
 replace hB:=hB.trans aj
 replace L2:=L2.gr aj
 replace L3:=L3.gr aj
 refine ⟨⟨L2,L3⟩,?_⟩
 simp only [p3,p4]
 refine oe ?_
 replace ha:=ha.kp aj.kp
 refine ec 25 (den_i ha) ?_
 rintro a1 aR ⟨⟨ba,aX,rfl,aN⟩,ab⟩
 refine ⟨_,rfl,?_⟩
 replace hB:=hB.trans ab
 replace L2:=L2.gr ab
 replace L3:=L3.gr ab
 refine ⟨⟨L2,L3⟩,?_⟩
 simp only [p3,p4]
 refine oe ?_
 have aD:=af.kp.trans (aj.kp.trans ab.kp)
 replace hb:=hb.kp aD
 refine ec 26 (mul_i hb.num aN (by omega)) ?_
 rintro bb bp ⟨⟨a0,a3,rfl,aK⟩,ad⟩
 refine ⟨_,rfl,?_⟩
 replace hB:=hB.trans ad
 replace L2:=L2.gr ad
 replace L3:=L3.gr ad
 refine ⟨⟨L2,L3⟩,?_⟩
 simp only [p3,p4]
 refine oe ?_
 have aJ:=ab.kp.trans ad.kp
 replace aF:=aF.kp aJ
 refine ec 27 (add_e (k+m) aF aK (by omega) (by omega) (by omega)) ?_
 rintro a5 bq ⟨⟨aY,aU,rfl,aH⟩,ai⟩
 refine ⟨_,rfl,?_⟩
 replace hB:=hB.trans ai
 replace L2:=L2.gr ai
 replace L3:=L3.gr ai
 refine ⟨⟨L2,L3⟩,?_⟩
 simp only [p3,p4]
 refine oe ?_
 have aI:=ab.kp.trans (ad.kp.trans ai.kp)
 replace ha:=ha.kp aI
 refine ec 29 (den_i ha) ?_
 rintro bo bk ⟨⟨aT,a8,rfl,az⟩,ah⟩
 refine ⟨_,rfl,?_⟩
 replace hB:=hB.trans ah
 replace L2:=L2.gr ah
 replace L3:=L3.gr ah
 refine ⟨⟨L2,L3⟩,?_⟩
 simp only [p3,p4]
 refine oe ?_
 have aA:=ad.kp.trans (ai.kp.trans ah.kp)
 replace hb:=hb.kp aA
 refine ec 31 (den_i hb) ?_
 rintro aZ bf ⟨⟨a9,bg,rfl,aM⟩,ae⟩
 refine ⟨_,rfl,?_⟩
 replace hB:=hB.trans ae
 replace L2:=L2.gr ae
 replace L3:=L3.gr ae
 refine ⟨⟨L2,L3⟩,?_⟩
 simp only [p3,p4]
 refine oe ?_
 replace az:=az.kp ae.kp
 refine ec 32 (mul_i az aM (by omega)) ?_
 rintro a4 aV ⟨⟨bc,aQ,rfl,aP⟩,ak⟩
 refine ⟨_,rfl,?_⟩
 replace hB:=hB.trans ak
 replace L2:=L2.gr ak
 replace L3:=L3.gr ak
 refine ⟨⟨L2,L3⟩,?_⟩
 simp only [p3,p4]
 refine oe ?_
 have aG:=ah.kp.trans (ae.kp.trans ak.kp)
 replace aH:=aH.kp aG
 refine ec 33 (reduced_i ((k+m+1)) aH aP (Int.mul_pos (Int.natCast_pos.2 a.den_pos) (Int.natCast_pos.2 b.den_pos)) (by omega) (by omega) (by omega) (by omega)) ?_
 rintro bn a6 ⟨⟨ax,aw,ay,av,rfl,ac⟩,au⟩
 refine ⟨_,rfl,?_⟩
 replace hB:=hB.trans au
 replace L2:=L2.gr au
 replace L3:=L3.gr au
 refine ⟨⟨L2,L3⟩,?_⟩
 simp only [p3,p4]
 refine oe ?_
 replace L4:=L4.gr (g7.trans (aa.trans (af.trans (aj.trans (ab.trans (ad.trans (ai.trans (ah.trans (ae.trans (ak.trans au))))))))))
 refine es 36 0 (.agg #[ax,aw,ay,av]) [ax,aw,ay,av] #[ax,aw,ay,av] L4 hB q4 ⟨ac.one0,ac.one1,ac.one2,ac.one3,trivial⟩ fun aS ar aE L4 hB=>?_
 replace L2:=ar.lc L2 al
 replace L3:=ar.lc L3 aq
 refine ⟨⟨L2,L3⟩,?_⟩
 refine ord_nil ?_
 refine k9 _ _ ?_
 try clear k9 K9
 refine wp_ret ?_
 refine bodyPost_ret (v:=(.agg #[ax,aw,ay,av])) (ret_cell _ _ _ rfl rfl L4 (by kernel_rfl)) rfl ⟨?_,hB⟩
 replace ac:=ac.kp aE
 exact ⟨_,_,_,_,rfl,by rw [← rat_add];exact ac⟩

theorem add_r {k m:Nat} {u0 u1 u2 u3 v0 v1 v2 v3:Value} {a b:Rat} {w:World} (ha:IsRat w k u0 u1 u2 u3 a) (hb:IsRat w m v0 v1 v2 v3 b) (hk:k+m≤100000):
    Calls Tryz.prog 103 #[.agg #[u0,u1,u2,u3],.agg #[v0,v1,v2,v3]] w fun e w'=>(∃ c0 c1 c2 c3,e=.returned (.agg #[c0,c1,c2,c3])∧IsRat w' (k+m+1) c0 c1 c2 c3 (a+b))∧Gr w w':=by
  by_cases wa:a.den=1
  · by_cases wb:b.den=1
    · exact add_tt ha hb hk wa wb
    · exact add_tf ha hb hk wa wb
  · exact add_f ha hb hk wa

set_option maxRecDepth 100000 in
set_option maxHeartbeats 1000000 in
theorem mul_tt {k m:Nat} {u0 u1 u2 u3 v0 v1 v2 v3:Value} {a b:Rat} {w:World} (ha:IsRat w k u0 u1 u2 u3 a) (hb:IsRat w m v0 v1 v2 v3 b) (_hk:k+m≤100000) (wa:a.den=1) (wb:b.den=1):
    Calls Tryz.prog 82 #[(.agg #[u0,u1,u2,u3]),(.agg #[v0,v1,v2,v3])] w fun e w'=>(∃ c0 c1 c2 c3,e=.returned (.agg #[c0,c1,c2,c3])∧IsRat w' (k+m) c0 c1 c2 c3 (a*b))∧Gr w w':=by
 have hka:=ha.big
 have hkb:=hb.big
 go_enter Tryz.func82,Tryz.ntmps82
 have hB:=Gr.refl w
 refine wp_seq_k (fun K1 k1=>?_)
 refine rg [0,1,2] ?_
 refine se ?_
 refine eb 36 #[u0,u1,u2,u3] 2 hB fun b2 w2 g2 L2 o2 q2 hB=>?_
 simp only [p3,p4]
 refine se ?_
 refine eb 36 #[v0,v1,v2,v3] 3 hB fun b3 w3 g3 L3 o3 q3 hB=>?_
 simp only [p3,p4]
 refine se ?_
 refine ea 36 #[(.bool false),(.slice none 0 0),(.bool false),(.slice none 0 0)] 4 hB fun b4 w4 g4 L4 o4 q4 hB=>?_
 replace L2:=L2.gr g3
 simp only [p3,p4]
 refine sq_nil ?_
 refine k1 _ _ ?_
 try clear k1 K1
 refine wp_seq_k (fun K5 k5=>?_)
 refine wp_seq_k (fun K6 k6=>?_)
 refine rg [0,1,2,3,4,5] ?_
 replace L2:=L2.gr g4
 refine sw 5 (.agg #[u0,u1,u2,u3]) rfl (rl 36 0 [u0,u1,u2,u3] L2) ?_
 refine se ?_
 have al:=g2.kp.trans (g3.kp.trans g4.kp)
 replace ha:=ha.kp al
 refine ec 6 (whole_t ha (by omega) wa) ?_
 rintro e7 w7 ⟨rfl,g7⟩
 refine ⟨_,rfl,?_⟩
 replace hB:=hB.trans g7
 simp only [p3,p4]
 refine sv 7 (.bool true) ?_
 replace L3:=L3.gr (g4.trans g7)
 refine sw 8 (.agg #[v0,v1,v2,v3]) rfl (rl 36 0 [v0,v1,v2,v3] L3) ?_
 refine se ?_
 have ad:=g2.kp.trans (g3.kp.trans (g4.kp.trans g7.kp))
 replace hb:=hb.kp ad
 refine ec 9 (whole_t hb (by omega) wb) ?_
 rintro e9 w9 ⟨rfl,g9⟩
 refine ⟨_,rfl,?_⟩
 replace hB:=hB.trans g9
 simp only [p3,p4]
 refine sv 10 (.bool true) ?_
 refine sq_nil ?_
 refine k6 _ _ ?_
 try clear k6 K6
 refine wp_cond_true rfl ?_
 refine wp_seq_k (fun aj ah=>?_)
 refine rg [0,1,2,3,4,5,6] ?_
 refine sv 11 (.pointer (some ⟨b2,0,none⟩)) ?_
 replace L2:=L2.gr (g7.trans g9)
 refine sw 12 (.agg #[u0,u1]) rfl (rl 34 0 [u0,u1] L2) ?_
 refine sv 13 (.pointer (some ⟨b3,0,none⟩)) ?_
 replace L3:=L3.gr g9
 refine sw 14 (.agg #[v0,v1]) rfl (rl 34 0 [v0,v1] L3) ?_
 refine se ?_
 have af:=g7.kp.trans g9.kp
 replace ha:=ha.kp af
 replace hb:=hb.kp g9.kp
 refine ec 15 (mul_i ha.num hb.num (by omega)) ?_
 rintro e12 ar ⟨⟨ab,aa,rfl,ac⟩,ai⟩
 refine ⟨_,rfl,?_⟩
 replace hB:=hB.trans ai
 simp only [p3,p4]
 refine sv 16 (.agg #[ab,aa,(.bool false),(.slice none 0 0)]) ?_
 refine se ?_
 replace L4:=L4.gr (g7.trans (g9.trans ai))
 refine es 36 0 (.agg #[ab,aa,(.bool false),(.slice none 0 0)]) [ab,aa,(.bool false),(.slice none 0 0)] #[ab,aa,(.bool false),(.slice none 0 0)] L4 hB q4 ⟨ac.one0,ac.one1,rfl,rfl,trivial⟩ fun aq ak ae L4 hB=>?_
 refine sq_nil ?_
 refine ah _ _ ?_
 try clear ah aj
 refine wp_ret ?_
 simp only [Exit.then]
 refine bodyPost_ret (v:=(.agg #[ab,aa,(.bool false),(.slice none 0 0)])) (ret_cell _ _ _ rfl rfl L4 (by kernel_rfl)) rfl ⟨?_,hB⟩
 replace ac:=ac.kp ae
 exact ⟨_,_,_,_,rfl,by rw [← rat_int wa,← rat_int wb,← Rat.intCast_mul];exact IsRat.int ac (by omega)⟩

set_option maxRecDepth 100000 in
set_option maxHeartbeats 1000000 in
theorem mul_tf {k m:Nat} {u0 u1 u2 u3 v0 v1 v2 v3:Value} {a b:Rat} {w:World} (ha:IsRat w k u0 u1 u2 u3 a) (hb:IsRat w m v0 v1 v2 v3 b) (_hk:k+m≤100000) (wa:a.den=1) (wb:b.den≠1):
    Calls Tryz.prog 82 #[(.agg #[u0,u1,u2,u3]),(.agg #[v0,v1,v2,v3])] w fun e w'=>(∃ c0 c1 c2 c3,e=.returned (.agg #[c0,c1,c2,c3])∧IsRat w' (k+m) c0 c1 c2 c3 (a*b))∧Gr w w':=by
 have hka:=ha.big
 have hkb:=hb.big
 go_enter Tryz.func82,Tryz.ntmps82
 have hB:=Gr.refl w
 refine wp_seq_k (fun K1 k1=>?_)
 refine rg [0,1,2] ?_
 refine se ?_
 refine eb 36 #[u0,u1,u2,u3] 2 hB fun b2 w2 g2 L2 o2 q2 hB=>?_
 simp only [p3,p4]
 refine se ?_
 refine eb 36 #[v0,v1,v2,v3] 3 hB fun b3 w3 g3 L3 o3 q3 hB=>?_
 simp only [p3,p4]
 refine se ?_
 refine ea 36 #[(.bool false),(.slice none 0 0),(.bool false),(.slice none 0 0)] 4 hB fun b4 w4 g4 L4 o4 q4 hB=>?_
 replace L2:=L2.gr g3
 have ah:=L2.ne o4
 have ai:=L3.ne o4
 simp only [p3,p4]
 refine sq_nil ?_
 refine k1 _ _ ?_
 try clear k1 K1
 refine wp_seq_k (fun K5 k5=>?_)
 refine wp_seq_k (fun K6 k6=>?_)
 refine rg [0,1,2,3,4,5] ?_
 replace L2:=L2.gr g4
 refine sw 5 (.agg #[u0,u1,u2,u3]) rfl (rl 36 0 [u0,u1,u2,u3] L2) ?_
 refine se ?_
 have aH:=g2.kp.trans (g3.kp.trans g4.kp)
 replace ha:=ha.kp aH
 refine ec 6 (whole_t ha (by omega) wa) ?_
 rintro e7 w7 ⟨rfl,g7⟩
 refine ⟨_,rfl,?_⟩
 replace hB:=hB.trans g7
 simp only [p3,p4]
 refine sv 7 (.bool true) ?_
 replace L3:=L3.gr (g4.trans g7)
 refine sw 8 (.agg #[v0,v1,v2,v3]) rfl (rl 36 0 [v0,v1,v2,v3] L3) ?_
 refine se ?_
 have az:=g2.kp.trans (g3.kp.trans (g4.kp.trans g7.kp))
 replace hb:=hb.kp az
 refine ec 9 (whole_f hb (by omega) wb) ?_
 rintro e9 w9 ⟨rfl,g9⟩
 refine ⟨_,rfl,?_⟩
 replace hB:=hB.trans g9
 simp only [p3,p4]
 refine sv 10 (.bool false) ?_
 refine sq_nil ?_
 refine k6 _ _ ?_
 try clear k6 K6
 refine wp_cond_false rfl ?_
 refine wp_skip ?_
 refine k5 _ _ ?_
 try clear k5 K5
 refine wp_seq_k (fun aE aD=>?_)
 have aa:=Gr.drew w9
 replace hB:=hB.trans aa
 replace L2:=L2.gr (g7.trans (g9.trans aa))
 replace L3:=L3.gr (g9.trans aa)
 refine wp_region_ord (fun w'=>Lc w' b2 #[u0,u1,u2,u3] 36∧Lc w' b3 #[v0,v1,v2,v3] 36) [(true,0),(true,1),(true,2),(true,3),(true,5),(true,7),(false,4),(false,6),(false,8),(false,9),(false,10),(false,11)] (by kernel_rfl) (by kernel_rfl) (by kernel_rfl) (by decide) (fun _ _ _ _ _ h=>h) ⟨L2,L3⟩ ?_
 refine ov 17 (.pointer (some ⟨b2,0,none⟩)) ?_
 refine ow 18 (.agg #[u0,u1]) rfl (fun w' hS=>(rl 34 0 [u0,u1] hS.1)) ?_
 refine ov 19 (.pointer (some ⟨b3,0,none⟩)) ?_
 refine ow 20 (.agg #[v0,v1]) rfl (fun w' hS=>(rl 34 0 [v0,v1] hS.2)) ?_
 refine ow 22 (.agg #[u0,u1,u2,u3]) rfl (fun w' hS=>(rl 36 0 [u0,u1,u2,u3] hS.1)) ?_
 refine ow 24 (.agg #[v0,v1,v2,v3]) rfl (fun w' hS=>(rl 36 0 [v0,v1,v2,v3] hS.2)) ?_
 refine oe ?_
 have aC:=g7.kp.trans (g9.kp.trans aa.kp)
 replace ha:=ha.kp aC
 have aB:=g9.kp.trans aa.kp
 replace hb:=hb.kp aB
 refine ec 21 (mul_i ha.num hb.num (by omega)) ?_
 rintro e31 aI ⟨⟨aY,aQ,rfl,ay⟩,ad⟩
 refine ⟨_,rfl,?_⟩
 replace hB:=hB.trans ad
 replace L2:=L2.gr ad
 replace L3:=L3.gr ad
 refine ⟨⟨L2,L3⟩,?_⟩
 simp only [p3,p4]
 refine oe ?_
 replace ha:=ha.kp ad.kp
 refine ec 23 (den_i ha) ?_
 rintro aK aT ⟨⟨aS,aX,rfl,av⟩,ae⟩
 refine ⟨_,rfl,?_⟩
 replace hB:=hB.trans ae
 replace L2:=L2.gr ae
 replace L3:=L3.gr ae
 refine ⟨⟨L2,L3⟩,?_⟩
 simp only [p3,p4]
 refine oe ?_
 have aw:=ad.kp.trans ae.kp
 replace hb:=hb.kp aw
 refine ec 25 (den_i hb) ?_
 rintro aN aZ ⟨⟨aM,aR,rfl,aF⟩,ac⟩
 refine ⟨_,rfl,?_⟩
 replace hB:=hB.trans ac
 replace L2:=L2.gr ac
 replace L3:=L3.gr ac
 refine ⟨⟨L2,L3⟩,?_⟩
 simp only [p3,p4]
 refine oe ?_
 replace av:=av.kp ac.kp
 refine ec 26 (mul_i av aF (by omega)) ?_
 rintro aV aU ⟨⟨aP,aW,rfl,aG⟩,af⟩
 refine ⟨_,rfl,?_⟩
 replace hB:=hB.trans af
 replace L2:=L2.gr af
 replace L3:=L3.gr af
 refine ⟨⟨L2,L3⟩,?_⟩
 simp only [p3,p4]
 refine oe ?_
 have aA:=ae.kp.trans (ac.kp.trans af.kp)
 replace ay:=ay.kp aA
 refine ec 27 (reduced_i ((k+m)) ay aG (Int.mul_pos (Int.natCast_pos.2 a.den_pos) (Int.natCast_pos.2 b.den_pos)) (by omega) (by omega) (by omega) (by omega)) ?_
 rintro aJ aO ⟨⟨au,ak,al,ar,rfl,ab⟩,aq⟩
 refine ⟨_,rfl,?_⟩
 replace hB:=hB.trans aq
 replace L2:=L2.gr aq
 replace L3:=L3.gr aq
 refine ⟨⟨L2,L3⟩,?_⟩
 simp only [p3,p4]
 refine oe ?_
 replace L4:=L4.gr (g7.trans (g9.trans (aa.trans (ad.trans (ae.trans (ac.trans (af.trans aq)))))))
 refine es 36 0 (.agg #[au,ak,al,ar]) [au,ak,al,ar] #[au,ak,al,ar] L4 hB q4 ⟨ab.one0,ab.one1,ab.one2,ab.one3,trivial⟩ fun aL aj ax L4 hB=>?_
 replace L2:=aj.lc L2 ah
 replace L3:=aj.lc L3 ai
 refine ⟨⟨L2,L3⟩,?_⟩
 refine ord_nil ?_
 refine aD _ _ ?_
 try clear aD aE
 refine wp_ret ?_
 refine bodyPost_ret (v:=(.agg #[au,ak,al,ar])) (ret_cell _ _ _ rfl rfl L4 (by kernel_rfl)) rfl ⟨?_,hB⟩
 replace ab:=ab.kp ax
 exact ⟨_,_,_,_,rfl,by rw [← rat_mul];exact ab⟩

set_option maxRecDepth 100000 in
set_option maxHeartbeats 1000000 in
theorem mul_f {k m:Nat} {u0 u1 u2 u3 v0 v1 v2 v3:Value} {a b:Rat} {w:World} (ha:IsRat w k u0 u1 u2 u3 a) (hb:IsRat w m v0 v1 v2 v3 b) (_hk:k+m≤100000) (wa:a.den≠1):
    Calls Tryz.prog 82 #[(.agg #[u0,u1,u2,u3]),(.agg #[v0,v1,v2,v3])] w fun e w'=>(∃ c0 c1 c2 c3,e=.returned (.agg #[c0,c1,c2,c3])∧IsRat w' (k+m) c0 c1 c2 c3 (a*b))∧Gr w w':=by
 have hka:=ha.big
 have hkb:=hb.big
 go_enter Tryz.func82,Tryz.ntmps82
 have hB:=Gr.refl w
 refine wp_seq_k (fun K1 k1=>?_)
 refine rg [0,1,2] ?_
 refine se ?_
 refine eb 36 #[u0,u1,u2,u3] 2 hB fun b2 w2 g2 L2 o2 q2 hB=>?_
 simp only [p3,p4]
 refine se ?_
 refine eb 36 #[v0,v1,v2,v3] 3 hB fun b3 w3 g3 L3 o3 q3 hB=>?_
 simp only [p3,p4]
 refine se ?_
 refine ea 36 #[(.bool false),(.slice none 0 0),(.bool false),(.slice none 0 0)] 4 hB fun b4 w4 g4 L4 o4 q4 hB=>?_
 replace L2:=L2.gr g3
 have af:=L2.ne o4
 have ah:=L3.ne o4
 simp only [p3,p4]
 refine sq_nil ?_
 refine k1 _ _ ?_
 try clear k1 K1
 refine wp_seq_k (fun K5 k5=>?_)
 refine wp_seq_k (fun K6 k6=>?_)
 refine rg [0,1,2,3,4,5] ?_
 replace L2:=L2.gr g4
 refine sw 5 (.agg #[u0,u1,u2,u3]) rfl (rl 36 0 [u0,u1,u2,u3] L2) ?_
 refine se ?_
 have aE:=g2.kp.trans (g3.kp.trans g4.kp)
 replace ha:=ha.kp aE
 refine ec 6 (whole_f ha (by omega) wa) ?_
 rintro e7 w7 ⟨rfl,g7⟩
 refine ⟨_,rfl,?_⟩
 replace hB:=hB.trans g7
 simp only [p3,p4]
 refine sv 7 (.bool false) ?_
 refine ss 8 ?_
 refine ss 9 ?_
 refine sv 10 (.bool false) ?_
 refine sq_nil ?_
 refine k6 _ _ ?_
 try clear k6 K6
 refine wp_cond_false rfl ?_
 refine wp_skip ?_
 refine k5 _ _ ?_
 try clear k5 K5
 refine wp_seq_k (fun K9 k9=>?_)
 have aa:=Gr.drew w7
 replace hB:=hB.trans aa
 replace L2:=L2.gr (g7.trans aa)
 replace L3:=L3.gr (g4.trans (g7.trans aa))
 refine wp_region_ord (fun w'=>Lc w' b2 #[u0,u1,u2,u3] 36∧Lc w' b3 #[v0,v1,v2,v3] 36) [(true,0),(true,1),(true,2),(true,3),(true,5),(true,7),(false,4),(false,6),(false,8),(false,9),(false,10),(false,11)] (by kernel_rfl) (by kernel_rfl) (by kernel_rfl) (by decide) (fun _ _ _ _ _ h=>h) ⟨L2,L3⟩ ?_
 refine ov 17 (.pointer (some ⟨b2,0,none⟩)) ?_
 refine ow 18 (.agg #[u0,u1]) rfl (fun w' hS=>(rl 34 0 [u0,u1] hS.1)) ?_
 refine ov 19 (.pointer (some ⟨b3,0,none⟩)) ?_
 refine ow 20 (.agg #[v0,v1]) rfl (fun w' hS=>(rl 34 0 [v0,v1] hS.2)) ?_
 refine ow 22 (.agg #[u0,u1,u2,u3]) rfl (fun w' hS=>(rl 36 0 [u0,u1,u2,u3] hS.1)) ?_
 refine ow 24 (.agg #[v0,v1,v2,v3]) rfl (fun w' hS=>(rl 36 0 [v0,v1,v2,v3] hS.2)) ?_
 refine oe ?_
 have aB:=g7.kp.trans aa.kp
 replace ha:=ha.kp aB
 have aA:=g2.kp.trans (g3.kp.trans (g4.kp.trans (g7.kp.trans aa.kp)))
 replace hb:=hb.kp aA
 refine ec 21 (mul_i ha.num hb.num (by omega)) ?_
 rintro aF aP ⟨⟨aK,aI,rfl,az⟩,ad⟩
 refine ⟨_,rfl,?_⟩
 replace hB:=hB.trans ad
 replace L2:=L2.gr ad
 replace L3:=L3.gr ad
 refine ⟨⟨L2,L3⟩,?_⟩
 simp only [p3,p4]
 refine oe ?_
 replace ha:=ha.kp ad.kp
 refine ec 23 (den_i ha) ?_
 rintro e33 aN ⟨⟨aO,aM,rfl,ax⟩,ac⟩
 refine ⟨_,rfl,?_⟩
 replace hB:=hB.trans ac
 replace L2:=L2.gr ac
 replace L3:=L3.gr ac
 refine ⟨⟨L2,L3⟩,?_⟩
 simp only [p3,p4]
 refine oe ?_
 have aw:=ad.kp.trans ac.kp
 replace hb:=hb.kp aw
 refine ec 25 (den_i hb) ?_
 rintro aG aS ⟨⟨aR,aW,rfl,aC⟩,ae⟩
 refine ⟨_,rfl,?_⟩
 replace hB:=hB.trans ae
 replace L2:=L2.gr ae
 replace L3:=L3.gr ae
 refine ⟨⟨L2,L3⟩,?_⟩
 simp only [p3,p4]
 refine oe ?_
 replace ax:=ax.kp ae.kp
 refine ec 26 (mul_i ax aC (by omega)) ?_
 rintro aQ aL ⟨⟨aH,aJ,rfl,aD⟩,ai⟩
 refine ⟨_,rfl,?_⟩
 replace hB:=hB.trans ai
 replace L2:=L2.gr ai
 replace L3:=L3.gr ai
 refine ⟨⟨L2,L3⟩,?_⟩
 simp only [p3,p4]
 refine oe ?_
 have ay:=ac.kp.trans (ae.kp.trans ai.kp)
 replace az:=az.kp ay
 refine ec 27 (reduced_i ((k+m)) az aD (Int.mul_pos (Int.natCast_pos.2 a.den_pos) (Int.natCast_pos.2 b.den_pos)) (by omega) (by omega) (by omega) (by omega)) ?_
 rintro aV aT ⟨⟨au,aq,ak,ar,rfl,ab⟩,al⟩
 refine ⟨_,rfl,?_⟩
 replace hB:=hB.trans al
 replace L2:=L2.gr al
 replace L3:=L3.gr al
 refine ⟨⟨L2,L3⟩,?_⟩
 simp only [p3,p4]
 refine oe ?_
 replace L4:=L4.gr (g7.trans (aa.trans (ad.trans (ac.trans (ae.trans (ai.trans al))))))
 refine es 36 0 (.agg #[au,aq,ak,ar]) [au,aq,ak,ar] #[au,aq,ak,ar] L4 hB q4 ⟨ab.one0,ab.one1,ab.one2,ab.one3,trivial⟩ fun aU aj av L4 hB=>?_
 replace L2:=aj.lc L2 af
 replace L3:=aj.lc L3 ah
 refine ⟨⟨L2,L3⟩,?_⟩
 refine ord_nil ?_
 refine k9 _ _ ?_
 try clear k9 K9
 refine wp_ret ?_
 refine bodyPost_ret (v:=(.agg #[au,aq,ak,ar])) (ret_cell _ _ _ rfl rfl L4 (by kernel_rfl)) rfl ⟨?_,hB⟩
 replace ab:=ab.kp av
 exact ⟨_,_,_,_,rfl,by rw [← rat_mul];exact ab⟩

theorem mul_r {k m:Nat} {u0 u1 u2 u3 v0 v1 v2 v3:Value} {a b:Rat} {w:World} (ha:IsRat w k u0 u1 u2 u3 a) (hb:IsRat w m v0 v1 v2 v3 b) (hk:k+m≤100000):
    Calls Tryz.prog 82 #[.agg #[u0,u1,u2,u3],.agg #[v0,v1,v2,v3]] w fun e w'=>(∃ c0 c1 c2 c3,e=.returned (.agg #[c0,c1,c2,c3])∧IsRat w' (k+m) c0 c1 c2 c3 (a*b))∧Gr w w':=by
  by_cases wa:a.den=1
  · by_cases wb:b.den=1
    · exact mul_tt ha hb hk wa wb
    · exact mul_tf ha hb hk wa wb
  · exact mul_f ha hb hk wa

set_option maxRecDepth 100000 in
set_option maxHeartbeats 1000000 in
theorem neg_r {k:Nat} {u0 u1 u2 u3:Value} {a:Rat} {w:World} (ha:IsRat w k u0 u1 u2 u3 a):
    Calls Tryz.prog 108 #[(.agg #[u0,u1,u2,u3])] w fun e w'=>(∃ c0 c1 c2 c3,e=.returned (.agg #[c0,c1,c2,c3])∧IsRat w' k c0 c1 c2 c3 (-a))∧Gr w w':=by
 go_enter Tryz.func108,Tryz.ntmps108
 have hB:=Gr.refl w
 refine wp_seq_k (fun K1 k1=>?_)
 refine rg [0,1] ?_
 refine se ?_
 refine eb 36 #[u0,u1,u2,u3] 1 hB fun b2 w2 g2 L2 o2 q2 hB=>?_
 simp only [p3,p4]
 refine se ?_
 refine ea 36 #[(.bool false),(.slice none 0 0),(.bool false),(.slice none 0 0)] 2 hB fun b3 w3 g3 L3 o3 q3 hB=>?_
 have ab:=L2.ne o3
 simp only [p3,p4]
 refine sq_nil ?_
 refine k1 _ _ ?_
 try clear k1 K1
 refine wp_seq_k (fun K4 k4=>?_)
 have aa:=Gr.drew w3
 replace hB:=hB.trans aa
 replace L2:=L2.gr (g3.trans aa)
 refine wp_region_ord (fun w'=>Lc w' b2 #[u0,u1,u2,u3] 36) [(true,0),(true,1),(true,3),(true,4),(false,2),(true,5),(false,6)] (by kernel_rfl) (by kernel_rfl) (by kernel_rfl) (by decide) (fun _ _ _ _ _ h=>h) L2 ?_
 refine ov 3 (.pointer (some ⟨b2,0,none⟩)) ?_
 refine ow 4 (.agg #[u0,u1]) rfl (fun w' hS=>(rl 34 0 [u0,u1] hS)) ?_
 refine ov 6 (.pointer (some ⟨b2,2,none⟩)) ?_
 refine ow 7 (.agg #[u2,u3]) rfl (fun w' hS=>(rl 34 2 [u2,u3] hS)) ?_
 refine oe ?_
 have ai:=g2.kp.trans (g3.kp.trans aa.kp)
 replace ha:=ha.kp ai
 refine ec 5 (neg_i ha.num) ?_
 rintro e13 al ⟨⟨ae,ad,rfl,af⟩,ah⟩
 refine ⟨_,rfl,?_⟩
 replace hB:=hB.trans ah
 replace L2:=L2.gr ah
 refine ⟨L2,?_⟩
 simp only [p3,p4]
 refine ov 8 (.agg #[ae,ad,u2,u3]) ?_
 refine oe ?_
 replace L3:=L3.gr (aa.trans ah)
 refine es 36 0 (.agg #[ae,ad,u2,u3]) [ae,ad,u2,u3] #[ae,ad,u2,u3] L3 hB q3 ⟨af.one0,af.one1,ha.one2,ha.one3,trivial⟩ fun aq aj ac L3 hB=>?_
 replace L2:=aj.lc L2 ab
 refine ⟨L2,?_⟩
 refine ord_nil ?_
 refine k4 _ _ ?_
 try clear k4 K4
 refine wp_ret ?_
 refine bodyPost_ret (v:=(.agg #[ae,ad,u2,u3])) (ret_cell _ _ _ rfl rfl L3 (by kernel_rfl)) rfl ⟨?_,hB⟩
 have ak:=ah.kp.trans ac
 replace ha:=ha.kp ak
 replace af:=af.kp ac
 exact ⟨_,_,_,_,rfl,IsRat.neg ha af⟩

set_option maxRecDepth 100000 in
set_option maxHeartbeats 1000000 in
theorem sub_r {k m:Nat} {u0 u1 u2 u3 v0 v1 v2 v3:Value} {a b:Rat} {w:World} (ha:IsRat w k u0 u1 u2 u3 a) (hb:IsRat w m v0 v1 v2 v3 b) (_hk:k+m≤100000):
    Calls Tryz.prog 75 #[(.agg #[u0,u1,u2,u3]),(.agg #[v0,v1,v2,v3])] w fun e w'=>(∃ c0 c1 c2 c3,e=.returned (.agg #[c0,c1,c2,c3])∧IsRat w' (k+m+1) c0 c1 c2 c3 (a - b))∧Gr w w':=by
 go_enter Tryz.func75,Tryz.ntmps75
 have hB:=Gr.refl w
 refine wp_seq_k (fun K1 k1=>?_)
 refine rg [0,1,2] ?_
 refine se ?_
 refine eb 36 #[u0,u1,u2,u3] 2 hB fun b2 w2 g2 L2 o2 q2 hB=>?_
 simp only [p3,p4]
 refine se ?_
 refine eb 36 #[v0,v1,v2,v3] 3 hB fun b3 w3 g3 L3 o3 q3 hB=>?_
 simp only [p3,p4]
 refine se ?_
 refine ea 36 #[(.bool false),(.slice none 0 0),(.bool false),(.slice none 0 0)] 4 hB fun b4 w4 g4 L4 o4 q4 hB=>?_
 replace L2:=L2.gr g3
 have ad:=L2.ne o4
 have ae:=L3.ne o4
 simp only [p3,p4]
 refine sq_nil ?_
 refine k1 _ _ ?_
 try clear k1 K1
 refine wp_seq_k (fun K5 k5=>?_)
 have aa:=Gr.drew w4
 replace hB:=hB.trans aa
 replace L2:=L2.gr (g4.trans aa)
 replace L3:=L3.gr (g4.trans aa)
 refine wp_region_ord (fun w'=>Lc w' b2 #[u0,u1,u2,u3] 36∧Lc w' b3 #[v0,v1,v2,v3] 36) [(true,0),(true,1),(false,2),(false,3),(false,4)] (by kernel_rfl) (by kernel_rfl) (by kernel_rfl) (by decide) (fun _ _ _ _ _ h=>h) ⟨L2,L3⟩ ?_
 refine ow 5 (.agg #[u0,u1,u2,u3]) rfl (fun w' hS=>(rl 36 0 [u0,u1,u2,u3] hS.1)) ?_
 refine ow 6 (.agg #[v0,v1,v2,v3]) rfl (fun w' hS=>(rl 36 0 [v0,v1,v2,v3] hS.2)) ?_
 refine oe ?_
 have aq:=g2.kp.trans (g3.kp.trans (g4.kp.trans aa.kp))
 replace hb:=hb.kp aq
 refine ec 7 (neg_r hb) ?_
 rintro az aD ⟨⟨aB,aC,ay,aE,rfl,av⟩,ac⟩
 refine ⟨_,rfl,?_⟩
 replace hB:=hB.trans ac
 replace L2:=L2.gr ac
 replace L3:=L3.gr ac
 refine ⟨⟨L2,L3⟩,?_⟩
 simp only [p3,p4]
 refine oe ?_
 have ar:=g2.kp.trans (g3.kp.trans (g4.kp.trans (aa.kp.trans ac.kp)))
 replace ha:=ha.kp ar
 refine ec 8 (add_r ha av (by omega)) ?_
 rintro aA aw ⟨⟨ah,al,ai,aj,rfl,ab⟩,ak⟩
 refine ⟨_,rfl,?_⟩
 replace hB:=hB.trans ak
 replace L2:=L2.gr ak
 replace L3:=L3.gr ak
 refine ⟨⟨L2,L3⟩,?_⟩
 simp only [p3,p4]
 refine oe ?_
 replace L4:=L4.gr (aa.trans (ac.trans ak))
 refine es 36 0 (.agg #[ah,al,ai,aj]) [ah,al,ai,aj] #[ah,al,ai,aj] L4 hB q4 ⟨ab.one0,ab.one1,ab.one2,ab.one3,trivial⟩ fun ax af au L4 hB=>?_
 replace L2:=af.lc L2 ad
 replace L3:=af.lc L3 ae
 refine ⟨⟨L2,L3⟩,?_⟩
 refine ord_nil ?_
 refine k5 _ _ ?_
 try clear k5 K5
 refine wp_ret ?_
 refine bodyPost_ret (v:=(.agg #[ah,al,ai,aj])) (ret_cell _ _ _ rfl rfl L4 (by kernel_rfl)) rfl ⟨?_,hB⟩
 replace ab:=ab.kp au
 exact ⟨_,_,_,_,rfl,by rw [Rat.sub_eq_add_neg];exact ab⟩

set_option maxRecDepth 100000 in
set_option maxHeartbeats 1000000 in
theorem num_r {k:Nat} {u0 u1 u2 u3:Value} {a:Rat} {w:World} (ha:IsRat w k u0 u1 u2 u3 a):
    Calls Tryz.prog 130 #[(.agg #[u0,u1,u2,u3])] w fun e w'=>(∃ x' y',e=.returned (.agg #[x',y'])∧IsInt w' k x' y' (a.num))∧Gr w w':=by
 go_enter Tryz.func130,Tryz.ntmps130
 have hB:=Gr.refl w
 refine wp_seq_k (fun K1 k1=>?_)
 refine rg [0,1] ?_
 refine se ?_
 refine eb 36 #[u0,u1,u2,u3] 1 hB fun b2 w2 g2 L2 o2 q2 hB=>?_
 simp only [p3,p4]
 refine se ?_
 refine ea 34 #[(.bool false),(.slice none 0 0)] 2 hB fun b3 w3 g3 L3 o3 q3 hB=>?_
 simp only [p3,p4]
 refine sq_nil ?_
 refine k1 _ _ ?_
 try clear k1 K1
 refine wp_seq_k (fun K4 k4=>?_)
 refine rg [0,1,2] ?_
 refine sv 3 (.pointer (some ⟨b2,0,none⟩)) ?_
 replace L2:=L2.gr g3
 refine sw 4 (.agg #[u0,u1]) rfl (rl 34 0 [u0,u1] L2) ?_
 refine se ?_
 refine es 34 0 (.agg #[u0,u1]) [u0,u1] #[u0,u1] L3 hB q3 ⟨ha.one0,ha.one1,trivial⟩ fun w5 ac aa L3 hB=>?_
 refine sq_nil ?_
 refine k4 _ _ ?_
 try clear k4 K4
 refine wp_ret ?_
 refine bodyPost_ret (v:=(.agg #[u0,u1])) (ret_cell _ _ _ rfl rfl L3 (by kernel_rfl)) rfl ⟨?_,hB⟩
 have ab:=g2.kp.trans (g3.kp.trans aa)
 replace ha:=ha.kp ab
 exact ⟨_,_,rfl,ha.num⟩

set_option maxRecDepth 100000 in
set_option maxHeartbeats 1000000 in
theorem sign_r {k:Nat} {u0 u1 u2 u3:Value} {a:Rat} {w:World} (ha:IsRat w k u0 u1 u2 u3 a):
    Calls Tryz.prog 76 #[(.agg #[u0,u1,u2,u3])] w fun e w'=>e=.returned (.int .i64 (sgn a.num))∧Gr w w':=by
 go_enter Tryz.func76,Tryz.ntmps76
 have hB:=Gr.refl w
 refine wp_seq_k (fun K1 k1=>?_)
 refine rg [0,1] ?_
 refine se ?_
 refine eb 36 #[u0,u1,u2,u3] 1 hB fun b2 w2 g2 L2 o2 q2 hB=>?_
 simp only [p3,p4]
 refine sv 2 (.int .i64 0) ?_
 refine sq_nil ?_
 refine k1 _ _ ?_
 try clear k1 K1
 refine wp_seq_k (fun K3 k3=>?_)
 refine rg [0,1,2,3] ?_
 refine sv 3 (.pointer (some ⟨b2,0,none⟩)) ?_
 refine sw 4 (.agg #[u0,u1]) rfl (rl 34 0 [u0,u1] L2) ?_
 refine se ?_
 replace ha:=ha.kp g2.kp
 refine ec 5 (sign_i ha.num) ?_
 rintro e4 w4 ⟨rfl,g4⟩
 refine ⟨_,rfl,?_⟩
 replace hB:=hB.trans g4
 simp only [p3,p4]
 refine sv 2 (.int .i64 (sgn (a.num))) ?_
 refine sq_nil ?_
 refine k3 _ _ ?_
 try clear k3 K3
 refine wp_ret ?_
 refine bodyPost_ret (v:=(.int .i64 (sgn (a.num)))) (ret_tmp rfl rfl) rfl ⟨?_,hB⟩
 exact rfl

set_option maxRecDepth 100000 in
set_option maxHeartbeats 1000000 in
theorem from_r (z:Int) (_h0:-9223372036854775808≤z) (_h1:z≤9223372036854775807) (w:World):
    Calls Tryz.prog 59 #[(.int .i64 (z))] w fun e w'=>(∃ c0 c1 c2 c3,e=.returned (.agg #[c0,c1,c2,c3])∧IsRat w' 64 c0 c1 c2 c3 ((z:Rat)))∧Gr w w':=by
 go_enter Tryz.func59,Tryz.ntmps59
 have hB:=Gr.refl w
 refine wp_seq_k (fun K1 k1=>?_)
 refine rg [0] ?_
 refine se ?_
 refine ea 36 #[(.bool false),(.slice none 0 0),(.bool false),(.slice none 0 0)] 2 hB fun b2 w2 g2 L2 o2 q2 hB=>?_
 simp only [p3,p4]
 refine sq_nil ?_
 refine k1 _ _ ?_
 try clear k1 K1
 refine wp_seq_k (fun K3 k3=>?_)
 refine rg [0,1,2,3] ?_
 refine sv 3 (.int .i64 (z)) ?_
 refine se ?_
 refine ec 4 (from_i (z) (by omega) (by omega) _) ?_
 rintro e4 w4 ⟨⟨x4,y4,rfl,h4⟩,g4⟩
 refine ⟨_,rfl,?_⟩
 replace hB:=hB.trans g4
 simp only [p3,p4]
 refine sv 5 (.agg #[x4,y4,(.bool false),(.slice none 0 0)]) ?_
 refine se ?_
 replace L2:=L2.gr g4
 refine es 36 0 (.agg #[x4,y4,(.bool false),(.slice none 0 0)]) [x4,y4,(.bool false),(.slice none 0 0)] #[x4,y4,(.bool false),(.slice none 0 0)] L2 hB q2 ⟨h4.one0,h4.one1,rfl,rfl,trivial⟩ fun w5 ab aa L2 hB=>?_
 refine sq_nil ?_
 refine k3 _ _ ?_
 try clear k3 K3
 refine wp_ret ?_
 refine bodyPost_ret (v:=(.agg #[x4,y4,(.bool false),(.slice none 0 0)])) (ret_cell _ _ _ rfl rfl L2 (by kernel_rfl)) rfl ⟨?_,hB⟩
 replace h4:=h4.kp aa
 exact ⟨_,_,_,_,rfl,IsRat.int h4 (by omega)⟩

set_option maxRecDepth 100000 in
set_option maxHeartbeats 1000000 in
theorem rcomp_tt {k m:Nat} {u0 u1 u2 u3 v0 v1 v2 v3:Value} {a b:Rat} {w:World} (ha:IsRat w k u0 u1 u2 u3 a) (hb:IsRat w m v0 v1 v2 v3 b) (_hk:k+m≤100000) (wa:a.den=1) (wb:b.den=1):
    Calls Tryz.prog 37 #[(.agg #[u0,u1,u2,u3]),(.agg #[v0,v1,v2,v3])] w fun e w'=>e=.returned (.int .i64 (rcmp a b))∧Gr w w':=by
 have hka:=ha.big
 have hkb:=hb.big
 go_enter Tryz.func37,Tryz.ntmps37
 have hB:=Gr.refl w
 refine wp_seq_k (fun K1 k1=>?_)
 refine rg [0,1,2] ?_
 refine se ?_
 refine eb 36 #[u0,u1,u2,u3] 2 hB fun b2 w2 g2 L2 o2 q2 hB=>?_
 simp only [p3,p4]
 refine se ?_
 refine eb 36 #[v0,v1,v2,v3] 3 hB fun b3 w3 g3 L3 o3 q3 hB=>?_
 simp only [p3,p4]
 refine sv 4 (.int .i64 0) ?_
 refine sq_nil ?_
 refine k1 _ _ ?_
 try clear k1 K1
 refine wp_seq_k (fun K4 k4=>?_)
 refine wp_seq_k (fun K5 k5=>?_)
 refine rg [0,1,2,3,4,5] ?_
 replace L2:=L2.gr g3
 refine sw 5 (.agg #[u0,u1,u2,u3]) rfl (rl 36 0 [u0,u1,u2,u3] L2) ?_
 refine se ?_
 have af:=g2.kp.trans g3.kp
 replace ha:=ha.kp af
 refine ec 6 (whole_t ha (by omega) wa) ?_
 rintro e6 w6 ⟨rfl,g6⟩
 refine ⟨_,rfl,?_⟩
 replace hB:=hB.trans g6
 simp only [p3,p4]
 refine sv 7 (.bool true) ?_
 replace L3:=L3.gr g6
 refine sw 8 (.agg #[v0,v1,v2,v3]) rfl (rl 36 0 [v0,v1,v2,v3] L3) ?_
 refine se ?_
 have ae:=g2.kp.trans (g3.kp.trans g6.kp)
 replace hb:=hb.kp ae
 refine ec 9 (whole_t hb (by omega) wb) ?_
 rintro e8 w8 ⟨rfl,g8⟩
 refine ⟨_,rfl,?_⟩
 replace hB:=hB.trans g8
 simp only [p3,p4]
 refine sv 10 (.bool true) ?_
 refine sq_nil ?_
 refine k5 _ _ ?_
 try clear k5 K5
 refine wp_cond_true rfl ?_
 refine wp_seq_k (fun ac ab=>?_)
 refine rg [0,1,2,3,4,5] ?_
 refine sv 11 (.pointer (some ⟨b2,0,none⟩)) ?_
 replace L2:=L2.gr (g6.trans g8)
 refine sw 12 (.agg #[u0,u1]) rfl (rl 34 0 [u0,u1] L2) ?_
 refine sv 13 (.pointer (some ⟨b3,0,none⟩)) ?_
 replace L3:=L3.gr g8
 refine sw 14 (.agg #[v0,v1]) rfl (rl 34 0 [v0,v1] L3) ?_
 refine se ?_
 have aa:=g6.kp.trans g8.kp
 replace ha:=ha.kp aa
 replace hb:=hb.kp g8.kp
 refine ec 15 (compare_i ha.num hb.num (by omega) (by omega)) ?_
 rintro e11 ah ⟨rfl,ad⟩
 refine ⟨_,rfl,?_⟩
 replace hB:=hB.trans ad
 simp only [p3,p4]
 refine sv 4 (.int .i64 (sgn (a.num - b.num))) ?_
 refine sq_nil ?_
 refine ab _ _ ?_
 try clear ab ac
 refine wp_ret ?_
 simp only [Exit.then]
 refine bodyPost_ret (v:=(.int .i64 (sgn (a.num - b.num)))) (ret_tmp rfl rfl) rfl ⟨?_,hB⟩
 exact by rw [rcmp_int wa wb]

set_option maxRecDepth 100000 in
set_option maxHeartbeats 1000000 in
theorem rcomp_tf {k m:Nat} {u0 u1 u2 u3 v0 v1 v2 v3:Value} {a b:Rat} {w:World} (ha:IsRat w k u0 u1 u2 u3 a) (hb:IsRat w m v0 v1 v2 v3 b) (_hk:k+m≤100000) (wa:a.den=1) (wb:b.den≠1):
    Calls Tryz.prog 37 #[(.agg #[u0,u1,u2,u3]),(.agg #[v0,v1,v2,v3])] w fun e w'=>e=.returned (.int .i64 (rcmp a b))∧Gr w w':=by
 have hka:=ha.big
 have hkb:=hb.big
 go_enter Tryz.func37,Tryz.ntmps37
 have hB:=Gr.refl w
 refine wp_seq_k (fun K1 k1=>?_)
 refine rg [0,1,2] ?_
 refine se ?_
 refine eb 36 #[u0,u1,u2,u3] 2 hB fun b2 w2 g2 L2 o2 q2 hB=>?_
 simp only [p3,p4]
 refine se ?_
 refine eb 36 #[v0,v1,v2,v3] 3 hB fun b3 w3 g3 L3 o3 q3 hB=>?_
 simp only [p3,p4]
 refine sv 4 (.int .i64 0) ?_
 refine sq_nil ?_
 refine k1 _ _ ?_
 try clear k1 K1
 refine wp_seq_k (fun K4 k4=>?_)
 refine wp_seq_k (fun K5 k5=>?_)
 refine rg [0,1,2,3,4,5] ?_
 replace L2:=L2.gr g3
 refine sw 5 (.agg #[u0,u1,u2,u3]) rfl (rl 36 0 [u0,u1,u2,u3] L2) ?_
 refine se ?_
 have au:=g2.kp.trans g3.kp
 replace ha:=ha.kp au
 refine ec 6 (whole_t ha (by omega) wa) ?_
 rintro e6 w6 ⟨rfl,g6⟩
 refine ⟨_,rfl,?_⟩
 replace hB:=hB.trans g6
 simp only [p3,p4]
 refine sv 7 (.bool true) ?_
 replace L3:=L3.gr g6
 refine sw 8 (.agg #[v0,v1,v2,v3]) rfl (rl 36 0 [v0,v1,v2,v3] L3) ?_
 refine se ?_
 have ax:=g2.kp.trans (g3.kp.trans g6.kp)
 replace hb:=hb.kp ax
 refine ec 9 (whole_f hb (by omega) wb) ?_
 rintro e8 w8 ⟨rfl,g8⟩
 refine ⟨_,rfl,?_⟩
 replace hB:=hB.trans g8
 simp only [p3,p4]
 refine sv 10 (.bool false) ?_
 refine sq_nil ?_
 refine k5 _ _ ?_
 try clear k5 K5
 refine wp_cond_false rfl ?_
 refine wp_skip ?_
 refine k4 _ _ ?_
 try clear k4 K4
 refine wp_seq_k (fun aw aq=>?_)
 have aa:=Gr.drew w8
 replace hB:=hB.trans aa
 replace L2:=L2.gr (g6.trans (g8.trans aa))
 replace L3:=L3.gr (g8.trans aa)
 refine wp_region_ord (fun w'=>Lc w' b2 #[u0,u1,u2,u3] 36∧Lc w' b3 #[v0,v1,v2,v3] 36) [(true,0),(true,1),(true,2),(true,5),(true,6),(true,7),(false,3),(false,4),(false,8),(false,9),(false,10),(true,11)] (by kernel_rfl) (by kernel_rfl) (by kernel_rfl) (by decide) (fun _ _ _ _ _ h=>h) ⟨L2,L3⟩ ?_
 refine ov 16 (.pointer (some ⟨b2,0,none⟩)) ?_
 refine ow 17 (.agg #[u0,u1]) rfl (fun w' hS=>(rl 34 0 [u0,u1] hS.1)) ?_
 refine ow 18 (.agg #[v0,v1,v2,v3]) rfl (fun w' hS=>(rl 36 0 [v0,v1,v2,v3] hS.2)) ?_
 refine ov 21 (.pointer (some ⟨b3,0,none⟩)) ?_
 refine ow 22 (.agg #[v0,v1]) rfl (fun w' hS=>(rl 34 0 [v0,v1] hS.2)) ?_
 refine ow 23 (.agg #[u0,u1,u2,u3]) rfl (fun w' hS=>(rl 36 0 [u0,u1,u2,u3] hS.1)) ?_
 refine oe ?_
 have ak:=g8.kp.trans aa.kp
 replace hb:=hb.kp ak
 refine ec 19 (den_i hb) ?_
 rintro aN aB ⟨⟨aH,aD,rfl,ay⟩,ad⟩
 refine ⟨_,rfl,?_⟩
 replace hB:=hB.trans ad
 replace L2:=L2.gr ad
 replace L3:=L3.gr ad
 refine ⟨⟨L2,L3⟩,?_⟩
 simp only [p3,p4]
 refine oe ?_
 have al:=g6.kp.trans (g8.kp.trans (aa.kp.trans ad.kp))
 replace ha:=ha.kp al
 refine ec 20 (mul_i ha.num ay (by omega)) ?_
 rintro e31 aA ⟨⟨aO,aJ,rfl,ah⟩,ac⟩
 refine ⟨_,rfl,?_⟩
 replace hB:=hB.trans ac
 replace L2:=L2.gr ac
 replace L3:=L3.gr ac
 refine ⟨⟨L2,L3⟩,?_⟩
 simp only [p3,p4]
 refine oe ?_
 replace ha:=ha.kp ac.kp
 refine ec 24 (den_i ha) ?_
 rintro aE aC ⟨⟨aK,aF,rfl,av⟩,ab⟩
 refine ⟨_,rfl,?_⟩
 replace hB:=hB.trans ab
 replace L2:=L2.gr ab
 replace L3:=L3.gr ab
 refine ⟨⟨L2,L3⟩,?_⟩
 simp only [p3,p4]
 refine oe ?_
 have ai:=ad.kp.trans (ac.kp.trans ab.kp)
 replace hb:=hb.kp ai
 refine ec 25 (mul_i hb.num av (by omega)) ?_
 rintro aG az ⟨⟨aM,aI,rfl,ar⟩,ae⟩
 refine ⟨_,rfl,?_⟩
 replace hB:=hB.trans ae
 replace L2:=L2.gr ae
 replace L3:=L3.gr ae
 refine ⟨⟨L2,L3⟩,?_⟩
 simp only [p3,p4]
 refine oe ?_
 have af:=ab.kp.trans ae.kp
 replace ah:=ah.kp af
 refine ec 26 (compare_i ah ar (by omega) (by omega)) ?_
 rintro aP aL ⟨rfl,aj⟩
 refine ⟨_,rfl,?_⟩
 replace hB:=hB.trans aj
 replace L2:=L2.gr aj
 replace L3:=L3.gr aj
 refine ⟨⟨L2,L3⟩,?_⟩
 simp only [p3,p4]
 refine ov 4 (.int .i64 (sgn ((a.num*(b.den:Int)) - (b.num*(a.den:Int))))) ?_
 refine ord_nil ?_
 refine aq _ _ ?_
 try clear aq aw
 refine wp_ret ?_
 refine bodyPost_ret (v:=(.int .i64 (sgn ((a.num*(b.den:Int)) - (b.num*(a.den:Int)))))) (ret_tmp rfl rfl) rfl ⟨?_,hB⟩
 exact rfl

set_option maxRecDepth 100000 in
set_option maxHeartbeats 1000000 in
theorem rcomp_f {k m:Nat} {u0 u1 u2 u3 v0 v1 v2 v3:Value} {a b:Rat} {w:World} (ha:IsRat w k u0 u1 u2 u3 a) (hb:IsRat w m v0 v1 v2 v3 b) (_hk:k+m≤100000) (wa:a.den≠1):
    Calls Tryz.prog 37 #[(.agg #[u0,u1,u2,u3]),(.agg #[v0,v1,v2,v3])] w fun e w'=>e=.returned (.int .i64 (rcmp a b))∧Gr w w':=by
 have hka:=ha.big
 have hkb:=hb.big
 go_enter Tryz.func37,Tryz.ntmps37
 have hB:=Gr.refl w
 refine wp_seq_k (fun K1 k1=>?_)
 refine rg [0,1,2] ?_
 refine se ?_
 refine eb 36 #[u0,u1,u2,u3] 2 hB fun b2 w2 g2 L2 o2 q2 hB=>?_
 simp only [p3,p4]
 refine se ?_
 refine eb 36 #[v0,v1,v2,v3] 3 hB fun b3 w3 g3 L3 o3 q3 hB=>?_
 simp only [p3,p4]
 refine sv 4 (.int .i64 0) ?_
 refine sq_nil ?_
 refine k1 _ _ ?_
 try clear k1 K1
 refine wp_seq_k (fun K4 k4=>?_)
 refine wp_seq_k (fun K5 k5=>?_)
 refine rg [0,1,2,3,4,5] ?_
 replace L2:=L2.gr g3
 refine sw 5 (.agg #[u0,u1,u2,u3]) rfl (rl 36 0 [u0,u1,u2,u3] L2) ?_
 refine se ?_
 have ar:=g2.kp.trans g3.kp
 replace ha:=ha.kp ar
 refine ec 6 (whole_f ha (by omega) wa) ?_
 rintro e6 w6 ⟨rfl,g6⟩
 refine ⟨_,rfl,?_⟩
 replace hB:=hB.trans g6
 simp only [p3,p4]
 refine sv 7 (.bool false) ?_
 refine ss 8 ?_
 refine ss 9 ?_
 refine sv 10 (.bool false) ?_
 refine sq_nil ?_
 refine k5 _ _ ?_
 try clear k5 K5
 refine wp_cond_false rfl ?_
 refine wp_skip ?_
 refine k4 _ _ ?_
 try clear k4 K4
 refine wp_seq_k (fun K8 k8=>?_)
 have aa:=Gr.drew w6
 replace hB:=hB.trans aa
 replace L2:=L2.gr (g6.trans aa)
 replace L3:=L3.gr (g6.trans aa)
 refine wp_region_ord (fun w'=>Lc w' b2 #[u0,u1,u2,u3] 36∧Lc w' b3 #[v0,v1,v2,v3] 36) [(true,0),(true,1),(true,2),(true,5),(true,6),(true,7),(false,3),(false,4),(false,8),(false,9),(false,10),(true,11)] (by kernel_rfl) (by kernel_rfl) (by kernel_rfl) (by decide) (fun _ _ _ _ _ h=>h) ⟨L2,L3⟩ ?_
 refine ov 16 (.pointer (some ⟨b2,0,none⟩)) ?_
 refine ow 17 (.agg #[u0,u1]) rfl (fun w' hS=>(rl 34 0 [u0,u1] hS.1)) ?_
 refine ow 18 (.agg #[v0,v1,v2,v3]) rfl (fun w' hS=>(rl 36 0 [v0,v1,v2,v3] hS.2)) ?_
 refine ov 21 (.pointer (some ⟨b3,0,none⟩)) ?_
 refine ow 22 (.agg #[v0,v1]) rfl (fun w' hS=>(rl 34 0 [v0,v1] hS.2)) ?_
 refine ow 23 (.agg #[u0,u1,u2,u3]) rfl (fun w' hS=>(rl 36 0 [u0,u1,u2,u3] hS.1)) ?_
 refine oe ?_
 have ak:=g2.kp.trans (g3.kp.trans (g6.kp.trans aa.kp))
 replace hb:=hb.kp ak
 refine ec 19 (den_i hb) ?_
 rintro aF aL ⟨⟨aI,aw,rfl,aq⟩,ab⟩
 refine ⟨_,rfl,?_⟩
 replace hB:=hB.trans ab
 replace L2:=L2.gr ab
 replace L3:=L3.gr ab
 refine ⟨⟨L2,L3⟩,?_⟩
 simp only [p3,p4]
 refine oe ?_
 have al:=g6.kp.trans (aa.kp.trans ab.kp)
 replace ha:=ha.kp al
 refine ec 20 (mul_i ha.num aq (by omega)) ?_
 rintro ay aJ ⟨⟨aE,aD,rfl,aj⟩,ac⟩
 refine ⟨_,rfl,?_⟩
 replace hB:=hB.trans ac
 replace L2:=L2.gr ac
 replace L3:=L3.gr ac
 refine ⟨⟨L2,L3⟩,?_⟩
 simp only [p3,p4]
 refine oe ?_
 replace ha:=ha.kp ac.kp
 refine ec 24 (den_i ha) ?_
 rintro e32 ax ⟨⟨aG,aH,rfl,av⟩,ad⟩
 refine ⟨_,rfl,?_⟩
 replace hB:=hB.trans ad
 replace L2:=L2.gr ad
 replace L3:=L3.gr ad
 refine ⟨⟨L2,L3⟩,?_⟩
 simp only [p3,p4]
 refine oe ?_
 have af:=ab.kp.trans (ac.kp.trans ad.kp)
 replace hb:=hb.kp af
 refine ec 25 (mul_i hb.num av (by omega)) ?_
 rintro aA az ⟨⟨aK,aB,rfl,au⟩,ae⟩
 refine ⟨_,rfl,?_⟩
 replace hB:=hB.trans ae
 replace L2:=L2.gr ae
 replace L3:=L3.gr ae
 refine ⟨⟨L2,L3⟩,?_⟩
 simp only [p3,p4]
 refine oe ?_
 have ah:=ad.kp.trans ae.kp
 replace aj:=aj.kp ah
 refine ec 26 (compare_i aj au (by omega) (by omega)) ?_
 rintro aC aM ⟨rfl,ai⟩
 refine ⟨_,rfl,?_⟩
 replace hB:=hB.trans ai
 replace L2:=L2.gr ai
 replace L3:=L3.gr ai
 refine ⟨⟨L2,L3⟩,?_⟩
 simp only [p3,p4]
 refine ov 4 (.int .i64 (sgn ((a.num*(b.den:Int)) - (b.num*(a.den:Int))))) ?_
 refine ord_nil ?_
 refine k8 _ _ ?_
 try clear k8 K8
 refine wp_ret ?_
 refine bodyPost_ret (v:=(.int .i64 (sgn ((a.num*(b.den:Int)) - (b.num*(a.den:Int)))))) (ret_tmp rfl rfl) rfl ⟨?_,hB⟩
 exact rfl

theorem compare_r {k m:Nat} {u0 u1 u2 u3 v0 v1 v2 v3:Value} {a b:Rat} {w:World} (ha:IsRat w k u0 u1 u2 u3 a) (hb:IsRat w m v0 v1 v2 v3 b) (hk:k+m≤100000):
    Calls Tryz.prog 37 #[.agg #[u0,u1,u2,u3],.agg #[v0,v1,v2,v3]] w fun e w'=>e=.returned (.int .i64 (rcmp a b))∧Gr w w':=by
  by_cases wa:a.den=1
  · by_cases wb:b.den=1
    · exact rcomp_tt ha hb hk wa wb
    · exact rcomp_tf ha hb hk wa wb
  · exact rcomp_f ha hb hk wa

end Go.Proofs.YtaldbfflkpgfoaaGreatDoor
/- Contracts of the library's functions on strings,as the printed walks use them. -/
namespace Go.Proofs.YtaldbfflkpgfoaaGreatDoor
open Go.RowKit

/-- the library's table of powers of ten -/
def Tab (w:World):Prop:=Lib.TabIs Tryz.prog w "internal/strconv.uint64pow10" .u64 Lib.pow10Tab
theorem Tab.gr {w w':World} (h:Tab w) (g:Gr w w'):Tab w':=by
  unfold Tab Lib.TabIs World.var? at*
  cases hn:Tryz.prog.globalNamed "internal/strconv.uint64pow10" with
  | none=>rw [hn] at h;cases h
  | some k=>
    rw [hn] at h
    simp only [Option.bind_some] at h ⊢
    cases hk:w.heap[k]? with
    | none=>rw [hk] at h;cases h
    | some o=>rw [g.heap hk];rw [hk] at h;exact h
theorem itoa_t (n:Int) (h0:0≤n) (h1:n<1000000000) {w:World} (ht:Tab w):
    Calls Tryz.prog 135 #[.int .i64 n] w fun e w'=>e=.returned (.string ⟨(Lib.decDigits n.toNat).toArray⟩)∧Gr w w':=by
  refine (Tryz.strconv_Itoa n (by omega) (by omega) w ht).mono ?_
  rintro e w' ⟨he,k,os,rfl⟩
  refine ⟨?_,?_⟩
  · rw [he];unfold Lib.itoa;rw [if_neg (by omega)]
  · refine ⟨rfl,rfl,rfl,by simp [Sort.grow],fun i hi=>?_⟩
    show (w.heap++os)[i]?=w.heap[i]?
    rw [Array.getElem?_append_left hi]
theorem repeat9 (n:Nat) (h:n≤9) (w:World):
    Calls Tryz.prog 136 #[.string ⟨#[48]⟩,.int .i64 (9 - (n:Int))] w fun e w'=>e=.returned (.string ⟨(Lib.repeatL [48] (9 - n)).toArray⟩)∧Gr w w':=by
  have e:(9 - (n:Int))=((9 - n:Nat):Int):=by omega
  rw [e]
  refine (Tryz.strings_Repeat ⟨#[48]⟩ (9 - n) w (by omega) ?_).mono ?_
  · show 1*(9 - n)≤_
    omega
  · rintro e w' ⟨he,hb⟩
    exact ⟨he,hb⟩

/-- a string in a cell -/
def strV (l:List UInt8):Value:=.string ⟨l.toArray⟩
theorem writeAt_take:∀ (vs:List Value) (off:Nat) (cs:Array Value),off+vs.length≤cs.size→(writeAt cs off vs).size=cs.size∧∀ i,(writeAt cs off vs)[i]?=if off≤i∧i<off+vs.length then vs[i - off]? else cs[i]?
  | [],off,cs,_=>⟨rfl,fun i=>by rw [if_neg (by simp only [List.length_nil];omega)];rfl⟩
  | v::vs,off,cs,h=>by
    simp only [List.length_cons] at h
    obtain ⟨h1,h2⟩:=writeAt_take vs (off+1) (cs.setIfInBounds off v) (by rw [Array.size_setIfInBounds];omega)
    refine ⟨by rw [writeAt,h1];simp,fun i=>?_⟩
    rw [writeAt,h2 i]
    by_cases e:off=i
    · subst e
      have h9:off<cs.size:=by omega
      rw [if_neg (by omega),if_pos (by simp)]
      simp [h9]
    · by_cases hi:off+1≤i∧i<off+1+vs.length
      · rw [if_pos hi,if_pos (by simp;omega)]
        have:i - off=(i - (off+1))+1:=by omega
        rw [this,List.getElem?_cons_succ]
      · rw [if_neg hi,if_neg (by simp;omega),Array.getElem?_setIfInBounds_ne e]
theorem own_cells {w:World} {T:Nat} {L:List (List UInt8)} {g:Nat} {cur:Array Value} (hg:w.heap[g]?=some (.cells cur T (0,0))) (ht:cur.toList.take (L.map strV).length=L.map strV) (i:Nat) (hi:i<L.length):
    w.cell? ⟨g,i,none⟩=some (strV (L.getD i [])):=by
  rw [cells_of hg]
  have h1:(cur.toList.take (L.map strV).length)[i]?=(L.map strV)[i]?:=by rw [ht]
  rw [List.getElem?_take_of_lt (by simpa using hi)] at h1
  rw [Array.getElem?_toList] at h1
  rw [h1]
  simp [hi]
theorem reverse_own {w:World} {B:Nat} {v:Value} {L:List (List UInt8)} (h:OwnS w 9 B v (L.map strV)) (hp:0<L.length):
    Calls Tryz.prog 137 #[v] w fun e w'=>e=.returned (.tuple #[])∧OwnS w' 9 B v (L.reverse.map strV)∧Wt 9 w w'∧(∀ w0,Gr w0 w→w0.heap.size≤B→Gr w0 w'):=by
  obtain ⟨g,cap,cur,rfl,hb,hg,h1,h2,h3,h4⟩:=h.block (by simpa using hp)
  rw [List.length_map] at h1 ⊢
  have hlen:L.length≤9223372036854775807:=by unfold maxLen at h2;omega
  refine (Tryz.slices_Reverse_string_cells g 0 L.length cap (fun i=>⟨(L.getD i []).toArray⟩) w hlen (fun i hi=>?_) (fun i hi=>free_of hg _)).mono ?_
  · rw [Nat.zero_add];exact own_cells hg h4 i hi
  rintro e w' ⟨he,q,rfl⟩
  have es:(Lib.strsOf (fun i=>⟨(L.getD i []).toArray⟩) L.length)=L:=by
    unfold Lib.strsOf
    apply List.ext_getElem
    · simp
    · intro i h1 h2;simp at h1;simp [h1]
  rw [es]
  have hst:=St.setCells g (L.reverse.map encStr) 0 (w.drewN q)
  have hh:((w.drewN q).setCells g 0 (L.reverse.map encStr)).heap[g]?=some (.cells (writeAt cur 0 (L.reverse.map encStr)) 9 (0,0)):=heap_setCells _ 0 (w:=w.drewN q) hg
  obtain ⟨aa,ab⟩:=writeAt_take (L.reverse.map encStr) 0 cur (by simp;omega)
  have hbl:∀ k,k≠g→((w.drewN q).setCells g 0 (L.reverse.map encStr)).heap[k]?=w.heap[k]?:=fun k hk=>hst.block k hk
  refine ⟨he,⟨by simp,.inr ⟨g,cap,_,by simp,hb,hh,by simpa using h1,h2,by rw [aa];omega,?_⟩⟩,⟨hst.os,hst.tape,hst.output,Nat.le_of_eq hst.size.symm,fun b cs t fr ht hk=>?_⟩,fun w0 hG hB=>?_⟩
  · apply List.ext_getElem?
    intro i
    by_cases hi:i<L.length
    · rw [List.getElem?_take_of_lt (by simpa using hi),Array.getElem?_toList,ab i,if_pos (by simpa using hi)]
      rfl
    · rw [List.getElem?_eq_none (by simp;omega),List.getElem?_eq_none (by simp;omega)]
  · rw [hbl b (fun e=>?_)]
    · exact hk
    · subst e
      rw [hg] at hk
      simp only [Option.some.injEq,Obj.cells.injEq] at hk
      exact ht hk.2.1.symm
  · exact Below.trans hG ⟨hst.os,hst.tape,hst.output,Nat.le_of_eq hst.size.symm,fun k hk=>hbl k (by omega)⟩
theorem join_own {w:World} {B:Nat} {v:Value} {L:List (List UInt8)} (h:OwnS w 9 B v (L.map strV)) (hp:0<L.length) (hl:L.flatten.length≤140737488355328) (hn:L.length≤1000000):
    Calls Tryz.prog 138 #[v,.string ⟨#[]⟩] w fun e w'=>e=.returned (.string ⟨L.flatten.toArray⟩)∧Gr w w':=by
  obtain ⟨g,cap,cur,rfl,hb,hg,h1,h2,h3,h4⟩:=h.block (by simpa using hp)
  have em:((L.map fun l=>(⟨l.toArray⟩:ByteArray)).map fun x=>x.data.toList)=L:=by
    rw [List.map_map]
    conv=>rhs;rw [← List.map_id L]
    exact List.map_congr_left fun l _=>by simp
  have:=Tryz.strings_Join g 0 cap (L.map fun l=>⟨l.toArray⟩) ⟨#[]⟩ w (fun j x hj=>?_) (heap_lt hg) (by simp;omega) (by simpa using h1) (by
    rw [em];show (Lib.join L []).length≤_;rw [join_nil_sep];exact hl)
  · rw [em] at this
    simp only [List.length_map] at this ⊢
    refine this.mono ?_
    rintro e w' ⟨he,hb⟩
    refine ⟨?_,hb⟩
    rw [he]
    show Ending.returned (.string ⟨(Lib.join L []).toArray⟩)=_
    rw [join_nil_sep]
  · rw [Nat.zero_add,own_cells hg h4 j (by have:=(List.getElem?_eq_some_iff.1 hj).1;simpa using this)]
    obtain ⟨hj',e⟩:=List.getElem?_eq_some_iff.1 hj
    subst e
    simp at hj'
    simp [hj',strV]
end Go.Proofs.YtaldbfflkpgfoaaGreatDoor
/- What the text of an integer asks. -/
namespace Go.Proofs.YtaldbfflkpgfoaaGreatDoor
open Go.RowKit

theorem itoa_n (n:Nat) (h1:n<1000000000) {w:World} (ht:Tab w):
    Calls Tryz.prog 135 #[.int .i64 (n:Int)] w fun e w'=>e=.returned (.string ⟨(Lib.decDigits n).toArray⟩)∧Gr w w':=itoa_t n (by omega) (by omega) ht
theorem short9 {ao:Option Addr} {la ca u:Nat} {w:World} (h:Mag w ao la ca (u:Int)) (hl:la≤1000000):
    Calls Tryz.prog 134 #[.slice ao la ca,.int .u32 1000000000] w fun e w'=>
      (∃ go k cap,e=.returned (.tuple #[.slice go k cap,.int .u32 ((u % 1000000000:Nat):Int)])∧Mag w' go k cap ((u/1000000000:Nat):Int))∧Gr w w':=
  short_c ao la ca u 1000000000 w (by omega) h (by omega) (by omega)
theorem Mag.pos0 {w:World} {ao:Option Addr} {la ca u:Nat} (h:Mag w ao la ca (u:Int)) (hb:decide ((0:Int)<(la:Int))=true):0<u:=by
  have h0:(0:Int)<la:=by simpa using hb
  rcases Nat.eq_zero_or_pos u with e | e
  · have:=h.nl.len_zero.2 (by omega);omega
  · exact e
theorem Mag.zero0 {w:World} {ao:Option Addr} {la ca u:Nat} (h:Mag w ao la ca (u:Int)) (hb:decide ((0:Int)<(la:Int))=false):u=0:=by
  have h0:¬ (0:Int)<la:=by simpa using hb
  have:=h.nl.len_zero.1 (by omega)
  omega
theorem Mag.len9 {w:World} {ao:Option Addr} {la ca u k:Nat} (h:Mag w ao la ca (u:Int)) (hu:u<2 ^ k) (hk:k≤1000000):la≤1000000:=by
  have:=h.nl.len_sz (show Sz k (u:Int) by unfold Sz;simpa using hu)
  omega
end Go.Proofs.YtaldbfflkpgfoaaGreatDoor
/- Printed by a program of the prover's:the text of an integer. -/
namespace Go.Proofs.YtaldbfflkpgfoaaGreatDoor
open Go.RowKit

set_option maxRecDepth 100000 in
set_option maxHeartbeats 4000000 in
theorem text_pos {k N:Nat} {s:Bool} {ao:Option Addr} {la ca:Nat} {w:World} (ha:Mag w ao la ca (N:Int)) (hN:0<N) (hNk:N<2 ^ k) (_hk:k≤900000) (ht:Tab w):
    Calls Tryz.prog 114 #[(.agg #[(.bool (s)),(.slice ao la ca)])] w fun e w'=>e=.returned (.string ⟨((if s then [45] else [])++Lib.decDigits N).toArray⟩)∧Gr w w':=by
 have hla:0<la:=by
    rcases Nat.eq_zero_or_pos la with e | e
    · have:=ha.nl.len_zero.1 e;omega
    · exact e
 have e0:((la:Int)==(0:Int))=false:=by simp;omega
 go_enter Tryz.func114,Tryz.ntmps114
 have hB:=Gr.refl w
 refine wp_seq_k (fun K1 k1=>?_)
 refine rg [0,1] ?_
 refine se ?_
 refine eb 34 #[(.bool (s)),(.slice ao la ca)] 1 hB fun b2 w2 g2 L2 o2 q2 hB=>?_
 simp only [p3,p4]
 refine sv 2 (.string ⟨([]:List UInt8).toArray⟩) ?_
 refine sq_nil ?_
 refine k1 _ _ ?_
 try clear k1 K1
 refine wp_seq_k (fun K3 k3=>?_)
 refine wp_seq_k (fun K4 k4=>?_)
 refine rg [0,1,2,3] ?_
 refine sv 9 (.pointer (some ⟨b2,1,none⟩)) ?_
 refine sw 10 (.slice ao la ca) rfl (rk 32 1 L2) ?_
 refine sv 11 (.int .i64 ((la:Int))) ?_
 refine sw 12 (.bool false) rfl (RunV.bool (x:=((la:Int)==(0:Int))) (rvk (by kernel_rfl)) e0) ?_
 refine sq_nil ?_
 refine k4 _ _ ?_
 try clear k4 K4
 refine wp_cond_false rfl ?_
 refine wp_skip ?_
 refine k3 _ _ ?_
 try clear k3 K3
 refine wp_seq_k (fun K5 k5=>?_)
 refine rg [0] ?_
 refine sv 3 (.slice none 0 0) ?_
 refine sq_nil ?_
 refine k5 _ _ ?_
 try clear k5 K5
 refine wp_seq_k (fun K6 k6=>?_)
 refine wp_seq_k (fun K7 k7=>?_)
 refine rg [0,1,2] ?_
 refine sv 13 (.pointer (some ⟨b2,1,none⟩)) ?_
 refine sw 14 (.slice ao la ca) rfl (rk 32 1 L2) ?_
 refine sv 4 (.slice ao la ca) ?_
 refine sq_nil ?_
 refine k7 _ _ ?_
 try clear k7 K7
 refine wp_block ?_
 replace ha:=ha.kp g2.kp
 refine wp_loop_inv (a:=⟨List.toArray ?l8,[]⟩) (fun n a w'=>∃ (u:Nat) (L:List (List UInt8)) (v:Value) (mo:Option Addr) (ml:Nat) (mc:Nat) (u8:Nat→Value),u=n∧a=⟨[(u8 0),(.pointer (some ⟨b2,0,none⟩)),(.string ⟨([]:List UInt8).toArray⟩),v,(.slice mo ml mc),(u8 5),(u8 6),(u8 7),undef,(u8 9),(u8 10),(u8 11),(.bool false),(u8 13),(u8 14),(u8 15),(u8 16),(u8 17),(u8 18),(u8 19),(u8 20),(u8 21),(u8 22),(u8 23),(u8 24),(u8 25),(u8 26),(u8 27),(u8 28),(u8 29),(u8 30),(u8 31),(u8 32),(u8 33),(u8 34),(u8 35),(u8 36),(u8 37),(u8 38),(u8 39),undef,undef,undef,undef,undef,undef,undef,undef,undef].toArray,[]⟩∧L++grps u=grps N∧u<2 ^ k∧Mag w' mo ml mc (u:Int)∧OwnS w' 9 w.heap.size v (L.map strV)∧Lc w' b2 #[(.bool (s)),(.slice ao la ca)] 34∧Gr w w') (N) ?_ ?_
 ·exact ⟨N,[],.slice none 0 0,ao,la,ca,(fun i=>List.getD ?l8 i undef),rfl,rfl,(by simp),hNk,ha,(OwnS.nil _ _ _),L2,hB⟩
 rintro n8 a8 w8 ⟨u,L,v,mo,ml,mc,u8,rfl,rfl,hX,hu,hm,hown,L2,hB⟩ K8 k8
 have hln:L.length≤1000000:=by have h1:=grps_len k N hNk;rw [← hX,List.length_append] at h1;omega
 have h9:=dec9 u
 have bi:(Lib.repeatL [48] (9 - (Lib.decDigits (u % 1000000000)).length)).length≤9:=by rw [Lib.repeatL_length];simp
 refine wp_seq_k (fun K9 k9=>?_)
 refine wp_seq_k (fun a6 aH=>?_)
 refine rg [0,1,2] ?_
 refine sv 15 (.slice mo ml mc) ?_
 refine sv 16 (.int .i64 ((ml:Int))) ?_
 refine sv 17 (.bool (decide ((0:Int)<(ml:Int)))) ?_
 refine sq_nil ?_
 refine aH _ _ ?_
 try clear aH a6
 refine wp_cond_split (t:=decide ((0:Int)<(ml:Int))) rfl (fun ai=>?_) (fun ai=>?_)
 ·have av:=ai
  refine wp_skip ?_
  refine k9 _ _ ?_
  try clear k9 K9
  refine wp_block ?_
  refine wp_seq_k (fun ba aP=>?_)
  refine rg [0,1,2,3,4,5,6] ?_
  refine sv 19 (.slice mo ml mc) ?_
  refine se ?_
  refine ec 20 (short9 hm (hm.len9 hu (by omega))) ?_
  rintro e13 bj ⟨⟨ab,ac,aa,rfl,af⟩,ar⟩
  refine ⟨_,rfl,?_⟩
  replace hB:=hB.trans ar
  simp only [p3,p4]
  refine sv 18 (.tuple #[(.slice ab ac aa),(.int .u32 (((u % 1000000000:Nat):Int)))]) ?_
  refine sv 21 (.slice ab ac aa) ?_
  refine sv 22 (.int .u32 (((u % 1000000000:Nat):Int))) ?_
  refine sv 5 (.slice ab ac aa) ?_
  refine sv 6 (.int .u32 (((u % 1000000000:Nat):Int))) ?_
  refine sq_nil ?_
  refine aP _ _ ?_
  try clear aP ba
  refine wp_seq_k (fun bd aG=>?_)
  refine rg [0,1,2,3] ?_
  refine sv 23 (.int .u32 (((u % 1000000000:Nat):Int))) ?_
  refine sw 24 (.int .i64 (((u % 1000000000:Nat):Int))) rfl (RunV.int (x:=IntKind.i64.wrap (((u % 1000000000:Nat):Int))) (y:=((u % 1000000000:Nat):Int)) (rvk (by kernel_rfl)) (by first | rfl | (rw [IntKind.wrap_i64];omega))) ?_
  refine se ?_
  refine ec 25 (itoa_n (u % 1000000000) (by omega) (ht.gr hB)) ?_
  rintro bo bk ⟨rfl,ak⟩
  refine ⟨_,rfl,?_⟩
  replace hB:=hB.trans ak
  simp only [p3,p4]
  refine sv 7 (.string ⟨(Lib.decDigits (u % 1000000000):List UInt8).toArray⟩) ?_
  refine sq_nil ?_
  refine aG _ _ ?_
  try clear aG bd
  refine wp_seq_k (fun aN ax=>?_)
  refine wp_seq_k (fun bb aM=>?_)
  refine rg [0,1,2] ?_
  refine sv 26 (.slice ab ac aa) ?_
  refine sv 27 (.int .i64 ((ac:Int))) ?_
  refine sv 28 (.bool (decide ((0:Int)<(ac:Int)))) ?_
  refine sq_nil ?_
  refine aM _ _ ?_
  try clear aM bb
  refine wp_cond_split (t:=decide ((0:Int)<(ac:Int))) rfl (fun ah=>?_) (fun ah=>?_)
  ·refine rg [0,1,2,3,4,5,6] ?_
   refine sv 29 (.string ⟨(Lib.decDigits (u % 1000000000):List UInt8).toArray⟩) ?_
   refine sv 30 (.int .i64 (((Lib.decDigits (u % 1000000000)).length:Int))) ?_
   refine sw 31 (.int .i64 ((9 - ((Lib.decDigits (u % 1000000000)).length:Int)))) rfl (RunV.int (x:=IntKind.i64.wrap ((9 - ((Lib.decDigits (u % 1000000000)).length:Int)))) (y:=(9 - ((Lib.decDigits (u % 1000000000)).length:Int))) (rvk (by kernel_rfl)) (by first | rfl | (rw [IntKind.wrap_i64];omega))) ?_
   refine se ?_
   refine ec 32 (repeat9 (Lib.decDigits (u % 1000000000)).length (dec9 u) _) ?_
   rintro bt bg ⟨rfl,az⟩
   refine ⟨_,rfl,?_⟩
   replace hB:=hB.trans az
   simp only [p3,p4]
   refine sv 33 (.string ⟨(Lib.decDigits (u % 1000000000):List UInt8).toArray⟩) ?_
   refine sw 34 (.string ⟨((Lib.repeatL [48] (9 - (Lib.decDigits (u % 1000000000)).length))++(Lib.decDigits (u % 1000000000)):List UInt8).toArray⟩) rfl (rv_cat 9 9 _ _ (Lib.repeatL [48] (9 - (Lib.decDigits (u % 1000000000)).length)) (Lib.decDigits (u % 1000000000)) rfl rfl rfl (by omega)) ?_
   refine sv 7 (.string ⟨((Lib.repeatL [48] (9 - (Lib.decDigits (u % 1000000000)).length))++(Lib.decDigits (u % 1000000000)):List UInt8).toArray⟩) ?_
   refine sq_nil ?_
   refine ax _ _ ?_
   try clear ax aN
   refine wp_seq_k (fun aZ aW=>?_)
   refine rg [0,1,2,3,4] ?_
   refine sv 35 v ?_
   refine sv 36 (.string ⟨((Lib.repeatL [48] (9 - (Lib.decDigits (u % 1000000000)).length))++(Lib.decDigits (u % 1000000000)):List UInt8).toArray⟩) ?_
   refine se ?_
   refine eff_bs 9 1 #[(.string ⟨((Lib.repeatL [48] (9 - (Lib.decDigits (u % 1000000000)).length))++(Lib.decDigits (u % 1000000000)):List UInt8).toArray⟩)] (some 37) rfl (fun _=>by kernel_rfl) (fun a0 bh ay a2 bu=>?_)
   replace L2:=L2.gr (ar.trans (ak.trans az))
   replace hB:=hB.trans ay
   simp only [putl,p3,p4]
   refine se ?_
   replace hown:=hown.gr (ar.trans (ak.trans (az.trans ay)))
   refine eff_append1 _ _ 179 9 w.heap.size (.string ⟨([]:List UInt8).toArray⟩) v _ a0 (.string ⟨((Lib.repeatL [48] (9 - (Lib.decDigits (u % 1000000000)).length))++(Lib.decDigits (u % 1000000000)):List UInt8).toArray⟩) 1 (some 38) 16 rfl rfl rfl rfl hown a2 rfl w hB (Nat.le_refl _) (Below.size hB) (by rw [List.length_map];exact hln) (by decide) (by kernel_rfl) (by kernel_rfl) rfl (fun aO bq ad al aF=>?_)
   replace hB:=aF
   replace ad:=OwnS.snoc (f:=strV) ad
   simp only [putl,p3,p4]
   refine sv 3 aO ?_
   refine sq_nil ?_
   refine aW _ _ ?_
   try clear aW aZ
   refine rg [0,1] ?_
   refine sv 39 (.slice ab ac aa) ?_
   refine sv 4 (.slice ab ac aa) ?_
   refine sq_nil ?_
   have aB:=ak.kp.trans (az.kp.trans (ay.kp.trans (al.kp (by decide))))
   replace af:=af.kp aB
   replace L2:=al.lc (L2.gr ay) (by decide)
   refine k8 (u/1000000000) ⟨List.toArray ?l24,[]⟩ _ (Nat.div_lt_self (Mag.pos0 hm av) (by omega)) ?_
   exact ⟨u/1000000000,_,aO,ab,ac,aa,(fun i=>List.getD ?l24 i undef),rfl,rfl,(grps_step hX (Mag.pos0 hm av) (grp_hi (Mag.pos0 af ah))),(Nat.lt_of_le_of_lt (Nat.div_le_self _ _) hu),af,ad,L2,hB⟩
  ·refine wp_skip ?_
   refine ax _ _ ?_
   try clear ax aN
   refine wp_seq_k (fun a4 aV=>?_)
   refine rg [0,1,2,3,4] ?_
   refine sv 35 v ?_
   refine sv 36 (.string ⟨(Lib.decDigits (u % 1000000000):List UInt8).toArray⟩) ?_
   refine se ?_
   refine eff_bs 9 1 #[(.string ⟨(Lib.decDigits (u % 1000000000):List UInt8).toArray⟩)] (some 37) rfl (fun _=>by kernel_rfl) (fun a5 bv aw a3 bp=>?_)
   replace L2:=L2.gr (ar.trans ak)
   replace hB:=hB.trans aw
   simp only [putl,p3,p4]
   refine se ?_
   replace hown:=hown.gr (ar.trans (ak.trans aw))
   refine eff_append1 _ _ 179 9 w.heap.size (.string ⟨([]:List UInt8).toArray⟩) v _ a5 (.string ⟨(Lib.decDigits (u % 1000000000):List UInt8).toArray⟩) 1 (some 38) 16 rfl rfl rfl rfl hown a3 rfl w hB (Nat.le_refl _) (Below.size hB) (by rw [List.length_map];exact hln) (by decide) (by kernel_rfl) (by kernel_rfl) rfl (fun aR bn ae au aD=>?_)
   replace hB:=aD
   replace ae:=OwnS.snoc (f:=strV) ae
   simp only [putl,p3,p4]
   refine sv 3 aR ?_
   refine sq_nil ?_
   refine aV _ _ ?_
   try clear aV a4
   refine rg [0,1] ?_
   refine sv 39 (.slice ab ac aa) ?_
   refine sv 4 (.slice ab ac aa) ?_
   refine sq_nil ?_
   have aA:=ak.kp.trans (aw.kp.trans (au.kp (by decide)))
   replace af:=af.kp aA
   replace L2:=au.lc (L2.gr aw) (by decide)
   refine k8 (u/1000000000) ⟨List.toArray ?l29,[]⟩ _ (Nat.div_lt_self (Mag.pos0 hm av) (by omega)) ?_
   exact ⟨u/1000000000,_,aR,ab,ac,aa,(fun i=>List.getD ?l29 i undef),rfl,rfl,(grps_step hX (Mag.pos0 hm av) (grp_lo (by rw [Mag.zero0 af ah];omega))),(Nat.lt_of_le_of_lt (Nat.div_le_self _ _) hu),af,ae,L2,hB⟩
 ·have hz:=Mag.zero0 hm ai
  subst hz
  rw [grps_zero,List.append_nil] at hX
  have aS:0<L.length:=by rw [hX];exact grps_len0 hN
  have htx:L.reverse.flatten=Lib.decDigits N:=by rw [hX];exact grps_text N N (Nat.le_refl _) hN
  have hfl:L.reverse.flatten.length≤140737488355328:=by rw [htx];have:=dec_len_bits k N hNk;omega
  refine wp_exit ?_
  simp only [Exit.then,Exit.inBlock,↓reduceIte]
  refine k6 _ _ ?_
  try clear k6 K6
  refine wp_seq_k (fun aX aI=>?_)
  refine rg [0,1] ?_
  refine sv 40 v ?_
  refine se ?_
  refine eff_call (some 41) rfl (by kernel_rfl) (reverse_own hown aS) ?_
  rintro e31 bf ⟨rfl,aq,aE,aC⟩
  refine ⟨_,rfl,?_⟩
  replace hB:=aC _ hB (Nat.le_refl _)
  simp only [putl,p3,p4]
  refine sq_nil ?_
  refine aI _ _ ?_
  try clear aI aX
  refine wp_seq_k (fun a9 aT=>?_)
  refine rg [0,1,2] ?_
  refine sv 42 v ?_
  refine se ?_
  refine ec 43 (join_own aq (by rw [List.length_reverse];exact aS) hfl (by rw [List.length_reverse];exact hln)) ?_
  rintro e33 bm ⟨rfl,aL⟩
  refine ⟨_,rfl,?_⟩
  replace hB:=hB.trans aL
  simp only [p3,p4]
  refine sv 8 (.string ⟨(((L).reverse).flatten:List UInt8).toArray⟩) ?_
  refine sq_nil ?_
  refine aT _ _ ?_
  try clear aT a9
  refine wp_seq_k (fun aY aJ=>?_)
  refine wp_seq_k (fun a1 aQ=>?_)
  refine rg [0,1] ?_
  refine sv 44 (.pointer (some ⟨b2,0,none⟩)) ?_
  replace L2:=(aE.lc L2 (by decide)).gr aL
  refine sw 45 (.bool (s)) rfl (rk 4 0 L2) ?_
  refine sq_nil ?_
  refine aQ _ _ ?_
  try clear aQ a1
  refine wp_cond_split (t:=s) rfl (fun aj=>?_) (fun aj=>?_)
  ·refine wp_seq_k (fun bc aU=>?_)
   refine rg [0,1,2] ?_
   refine sv 46 (.string ⟨(((L).reverse).flatten:List UInt8).toArray⟩) ?_
   refine sw 47 (.string ⟨(([45])++(((L).reverse).flatten):List UInt8).toArray⟩) rfl (rv_cat 9 9 _ _ ([45]) (((L).reverse).flatten) rfl rfl rfl (by simp only [List.length_cons,List.length_nil];omega)) ?_
   refine sv 2 (.string ⟨(([45])++(((L).reverse).flatten):List UInt8).toArray⟩) ?_
   refine sq_nil ?_
   refine aU _ _ ?_
   try clear aU bc
   refine wp_ret ?_
   simp only [Exit.then]
   refine bodyPost_ret (v:=(.string ⟨(([45])++(((L).reverse).flatten):List UInt8).toArray⟩)) (ret_tmp rfl rfl) rfl ⟨?_,hB⟩
   exact (by rw [aj];show Ending.returned _=_;rw [htx];rfl)
  ·refine wp_skip ?_
   refine aJ _ _ ?_
   try clear aJ aY
   refine wp_seq_k (fun a7 aK=>?_)
   refine rg [0,1] ?_
   refine sv 48 (.string ⟨(((L).reverse).flatten:List UInt8).toArray⟩) ?_
   refine sv 2 (.string ⟨(((L).reverse).flatten:List UInt8).toArray⟩) ?_
   refine sq_nil ?_
   refine aK _ _ ?_
   try clear aK a7
   refine wp_ret ?_
   refine bodyPost_ret (v:=(.string ⟨(((L).reverse).flatten:List UInt8).toArray⟩)) (ret_tmp rfl rfl) rfl ⟨?_,hB⟩
   exact (by rw [aj];show Ending.returned _=_;rw [htx];rfl)

set_option maxRecDepth 100000 in
set_option maxHeartbeats 1000000 in
theorem text_zero {ao:Option Addr} {ca:Nat} (w:World):
    Calls Tryz.prog 114 #[(.agg #[(.bool false),(.slice ao 0 ca)])] w fun e w'=>e=.returned (.string ⟨#[48]⟩)∧Gr w w':=by
 go_enter Tryz.func114,Tryz.ntmps114
 have hB:=Gr.refl w
 refine wp_seq_k (fun K1 k1=>?_)
 refine rg [0,1] ?_
 refine se ?_
 refine eb 34 #[(.bool false),(.slice ao 0 ca)] 1 hB fun b2 w2 g2 L2 o2 q2 hB=>?_
 simp only [p3,p4]
 refine sv 2 (.string ⟨([]:List UInt8).toArray⟩) ?_
 refine sq_nil ?_
 refine k1 _ _ ?_
 try clear k1 K1
 refine wp_seq_k (fun K3 k3=>?_)
 refine wp_seq_k (fun K4 k4=>?_)
 refine rg [0,1,2,3] ?_
 refine sv 9 (.pointer (some ⟨b2,1,none⟩)) ?_
 refine sw 10 (.slice ao 0 ca) rfl (rk 32 1 L2) ?_
 refine sv 11 (.int .i64 0) ?_
 refine sv 12 (.bool true) ?_
 refine sq_nil ?_
 refine k4 _ _ ?_
 try clear k4 K4
 refine wp_cond_true rfl ?_
 refine wp_seq_k (fun K5 k5=>?_)
 refine rg [0] ?_
 refine sv 2 (.string ⟨([48]:List UInt8).toArray⟩) ?_
 refine sq_nil ?_
 refine k5 _ _ ?_
 try clear k5 K5
 refine wp_ret ?_
 simp only [Exit.then]
 refine bodyPost_ret (v:=(.string ⟨([48]:List UInt8).toArray⟩)) (ret_tmp rfl rfl) rfl ⟨?_,hB⟩
 exact rfl

theorem text_i {k:Nat} {x y:Value} {z:Int} {w:World} (hz:IsInt w k x y z) (hk:k≤900000) (ht:Tab w):
    Calls Tryz.prog 114 #[.agg #[x,y]] w fun e w'=>e=.returned (.string ⟨(Lib.itoa z).toArray⟩)∧Gr w w':=by
  obtain ⟨ao,la,ca,rfl,rfl,ha,hs⟩:=hz
  by_cases h0:z=0
  · subst h0
    have:la=0:=ha.nl.len_zero.2 rfl
    subst this
    have e1:decide ((0:Int)<0)=false:=by decide
    have e2:Lib.itoa 0=[48]:=by unfold Lib.itoa;rw [if_neg (by omega)];exact dec_small (by decide)
    rw [e1,e2]
    exact text_zero w
  · have:=text_pos (s:=decide (z<0)) ha (by omega) (by unfold Sz at hs;exact hs) hk ht
    refine this.mono ?_
    rintro e w1 ⟨he,g⟩
    refine ⟨?_,g⟩
    rw [he]
    unfold Lib.itoa
    by_cases hz:z<0
    · simp [hz]
    · have:z.toNat=z.natAbs:=by omega
      simp [hz,this]

end Go.Proofs.YtaldbfflkpgfoaaGreatDoor
/- The text of a rational. -/
namespace Go.Proofs.YtaldbfflkpgfoaaGreatDoor
open Go.RowKit

theorem itoa_len {k:Nat} {z:Int} (h:Sz k z):(Lib.itoa z).length≤k+2:=by
  unfold Lib.itoa
  have h1:=dec_len_bits k z.natAbs h
  split
  · simp;omega
  · have:z.toNat=z.natAbs:=by omega
    rw [this];omega
end Go.Proofs.YtaldbfflkpgfoaaGreatDoor
/- The reference of layer 2:what its texts are. -/
namespace Go.Proofs.YtaldbfflkpgfoaaGreatDoor
open Go.RowKit

theorem divInt_parts {N D:Int} (h0:0<D):(Rat.divInt N D).num=N/(Int.gcd N D:Int)∧((Rat.divInt N D).den:Int)=D/(Int.gcd N D:Int)∧0<(Int.gcd N D:Int):=by
  refine ⟨by rw [Rat.num_divInt,Int.sign_eq_one_of_pos h0,Int.one_mul,Int.gcd_comm],?_,?_⟩
  · rw [Rat.den_divInt,if_neg (by omega),Int.gcd_comm,Int.natCast_ediv]
    congr 1
    omega
  · have:Int.gcd N D≠0:=by rw [Ne,Int.gcd_eq_zero_iff];omega
    omega
theorem text_w {N D:Int} (h0:0<D) (hb:(Lib.itoa (D/(Int.gcd N D:Int))==[49])=true):Lib.itoa (N/(Int.gcd N D:Int))=ratL (Rat.divInt N D):=by
  obtain ⟨h1,h2,_⟩:=divInt_parts (N:=N) h0
  have h3:D/(Int.gcd N D:Int)=1:=itoa_inj (by rw [itoa_one];exact eq_of_beq hb)
  rw [ratL_w (by omega),h1]
theorem text_f {N D:Int} (h0:0<D) (hb:(Lib.itoa (D/(Int.gcd N D:Int))==[49])=false):Lib.itoa (N/(Int.gcd N D:Int))++[47]++Lib.itoa (D/(Int.gcd N D:Int))=ratL (Rat.divInt N D):=by
  obtain ⟨h1,h2,_⟩:=divInt_parts (N:=N) h0
  have h3:¬ (Rat.divInt N D).den=1:=fun e=>by
    rw [e] at h2
    rw [← h2] at hb
    rw [show ((1:Nat):Int)=1 from rfl,itoa_one] at hb
    exact absurd hb (by decide)
  rw [ratL_f h3,h1,h2]
theorem sz_gcd2 {k m:Nat} {N D:Int} (hN:Sz k N) (hD:Sz m D):Sz (k+m) (Int.gcd N D:Int):=sz_gcd hN hD
theorem sz_div {k:Nat} {N g:Int} (hN:Sz k N) (hg:0<g):Sz k (N/g):=by
  refine hN.of_le ?_
  rcases Int.lt_or_le N 0 with h | h
  · have h1:N≤N/g:=by
      rw [Int.le_ediv_iff_mul_le hg]
      have:N*g≤N*1:=Int.mul_le_mul_of_nonpos_left (by omega) (by omega)
      omega
    have h2:N/g<0:=Int.ediv_neg_of_neg_of_pos h hg
    omega
  · have h1:N/g≤N:=Int.ediv_le_self _ h
    have h2:0≤N/g:=Int.ediv_nonneg h (by omega)
    omega
theorem divInt_neg2 (N D:Int):Rat.divInt (-N) (-D)=Rat.divInt N D:=by
  exact Rat.neg_divInt_neg N D
end Go.Proofs.YtaldbfflkpgfoaaGreatDoor
/- The reference of layer 2:the parts of a text. -/
namespace Go.Proofs.YtaldbfflkpgfoaaGreatDoor
open Go.RowKit

theorem slash_at {l:List UInt8} {k:Nat} (h:l[k]?=some 47) (hn:(l.take k).all (· !=47)=true):(numL l).length=k∧numL l=l.take k∧denL l=l.drop (k+1)∧k<l.length:=by
  have hk:k<l.length:=(List.getElem?_eq_some_iff.1 h).1
  have e:l=l.take k++47::l.drop (k+1):=by
    have h1:l[k]=47:=(List.getElem?_eq_some_iff.1 h).2
    rw [← h1,List.getElem_cons_drop,List.take_append_drop]
  have hc:cutL l=(l.take k,some (l.drop (k+1))):=by
    conv=>lhs;rw [e]
    exact cutL_some (fun c hc=>by simpa using List.all_eq_true.1 hn c hc)
  unfold numL denL
  rw [hc]
  exact ⟨by simp;omega,rfl,rfl,hk⟩
theorem slash_no {l:List UInt8} (hn:l.all (· !=47)=true):numL l=l∧denL l=[49]:=by
  have hc:cutL l=(l,none):=cutL_none (fun c hc=>by simpa using List.all_eq_true.1 hn c hc)
  unfold numL denL
  rw [hc]
  exact ⟨rfl,rfl⟩
theorem noslash_step {s:ByteArray} {k:Nat} (h:k<s.size) (ha:(s.data.toList.take k).all (· !=47)=true) (h0:((s[k].toNat:Int)==47)=false):(s.data.toList.take (k+1)).all (· !=47)=true:=by
  rw [List.take_add_one,toList_get h,List.all_append,ha]
  simp only [Option.toList_some,List.all_cons,List.all_nil,Bool.and_true,Bool.true_and,bne_iff_ne,ne_eq]
  intro e
  rw [e] at h0
  exact absurd h0 (by decide)
theorem slash_get {s:ByteArray} {k:Nat} (h:k<s.size) (h0:((s[k].toNat:Int)==47)=true):s.data.toList[k]?=some 47:=by
  rw [toList_get h]
  congr 1
  rw [← UInt8.toNat_inj]
  have:=eq_of_beq h0
  have:(47:UInt8).toNat=47:=rfl
  omega
set_option maxHeartbeats 1000000 in
theorem r2_slash (s:ByteArray) (w:World) (hs:s.size≤1000000):
    Calls Tryz.prog 118 #[.string s] w fun e w'=>e=.returned (.int .i64 ((numL s.data.toList).length:Int))∧w=w':=by
  go_enter Tryz.func118,Tryz.ntmps118
  go_wp2
  go_loop [3] (fun i=>∃ k:Nat,k≤s.size∧i=.int .i64 k∧Hid ((s.data.toList.take k).all (· !=47)=true)) (fun i=>s.size - (intOf i).toNat)
  case atStart=>exact ⟨0,Nat.zero_le _,rfl,rfl⟩
  case round=>
    obtain ⟨k,hk,rfl,hz⟩:=hrel
    by_cases hlt:k<s.size
    · cases h0:((s[k].toNat:Int)==47)
      · go_wp2
        go_round
        case rel=>exact ⟨k+1,by omega,by go_num,noslash_step hlt hz.out h0⟩
        case measure=>simp [intOf];omega
      · have HS:=Lib.hid (slash_at (slash_get hlt h0) hz.out)
        go_wp2
        go_ret
        exact ⟨ret_int (by rw [HS.out.1]),rfl⟩
    · obtain rfl:k=s.size:=by omega
      have HS:Hid (numL s.data.toList=s.data.toList):=by
        have h1:=hz.out
        rw [List.take_of_length_le (by simp)] at h1
        exact (slash_no h1).1
      go_wp2
      go_ret
      exact ⟨ret_int (by rw [HS.out];simp),rfl⟩
theorem bytes_eq {s:ByteArray} {l:List UInt8} (h:s.data.toList=l):s=⟨l.toArray⟩:=by
  apply ByteArray.ext
  rw [← h]
theorem cut_parts (l:List UInt8):(numL l).length≤l.length∧((numL l).length=l.length→numL l=l∧denL l=[49])∧((numL l).length<l.length→numL l=l.take (numL l).length∧denL l=l.drop ((numL l).length+1)):=by
  have h:=cutL_eq l
  unfold numL denL
  cases hd:(cutL l).2 with
  | none=>
    rw [hd] at h;dsimp only at h
    rw [← h]
    exact ⟨Nat.le_refl _,fun _=>⟨rfl,rfl⟩,fun hh=>absurd hh (Nat.lt_irrefl _)⟩
  | some d=>
    rw [hd] at h;dsimp only at h
    clear hd
    generalize (cutL l).1=a at*
    subst h
    refine ⟨by simp,fun hh=>by simp at hh,fun _=>⟨by simp,?_⟩⟩
    rw [List.drop_append]
    simp
set_option maxHeartbeats 1000000 in
theorem r2_parts (s:ByteArray) (w:World) (hs:s.size≤1000000):
    Calls Tryz.prog 99 #[.string s] w fun e w'=>e=.returned (.tuple #[.string ⟨(numL s.data.toList).toArray⟩,.string ⟨(denL s.data.toList).toArray⟩])∧Gr w w':=by
  obtain ⟨h1,h2,h3⟩:=cut_parts s.data.toList
  have hsl:s.data.toList.length=s.size:=by simp
  rw [hsl] at h1 h2 h3
  obtain ⟨k,hk⟩:∃ k,k=(numL s.data.toList).length:=⟨_,rfl⟩
  have hc:=r2_slash s w hs
  rw [← hk] at h1 h2 h3 hc
  have HK:=Lib.hid hk
  have H2:=Lib.hid h2
  have H3:=Lib.hid h3
  clear hk h2 h3 hsl
  go_enter Tryz.func99,Tryz.ntmps99
  go_wp2_with fail
  refine hc.mono ?_
  rintro e w1 ⟨rfl,rfl⟩
  clear hc
  by_cases hks:k=s.size
  · have h2:=H2.out hks
    have HKS:=Lib.hid hks
    have HH:=Lib.hid h2
    have ht:((k:Int)==(s.size:Int))=true:=by rw [beq_iff_eq];omega
    clear h2 hks
    go_wp2
    go_ret2
    refine ⟨?_,Gr.refl _⟩
    rw [HH.out.1,HH.out.2,← bytes_eq (s:=s) rfl]
    rfl
  · have h3:=H3.out (by omega)
    have HH:=Lib.hid h3
    have hlt:k<s.size:=by omega
    have ht:((k:Int)==(s.size:Int))=false:=by rw [beq_eq_false_iff_ne];omega
    have i0:(0:Int)≤(k:Int):=by omega
    have i1:(k:Int)≤(s.size:Int):=by omega
    have i2:(k:Int)+1≤(s.size:Int):=by omega
    clear h3 hks
    go_wp2
    go_quiet (fail)
    go_wp2
    go_ret2
    refine ⟨?_,(Below.refl _ _).drewN _⟩
    rw [HH.out.1,HH.out.2]
    have e1:s.extract 0 k=⟨(s.data.toList.take k).toArray⟩:=bytes_eq (by rw [Lib.extract_data];simp)
    have e2:s.extract (k+1) s.size=⟨(s.data.toList.drop (k+1)).toArray⟩:=bytes_eq (by
      rw [Lib.extract_data,List.take_of_length_le]
      simp)
    rw [← e1,← e2]
    rfl
end Go.Proofs.YtaldbfflkpgfoaaGreatDoor
/- The reference of layer 2:digits,zeros. -/
namespace Go.Proofs.YtaldbfflkpgfoaaGreatDoor
open Go.RowKit

end Go.Proofs.YtaldbfflkpgfoaaGreatDoor
/- The reference of layer 2:the check of a text. -/
namespace Go.Proofs.YtaldbfflkpgfoaaGreatDoor
open Go.RowKit

section
variable {l:List UInt8} {most:Nat}
end
end Go.Proofs.YtaldbfflkpgfoaaGreatDoor
/- The reference of layer 2:contracts on the texts of rationals. -/
namespace Go.Proofs.YtaldbfflkpgfoaaGreatDoor
open Go.RowKit

theorem ratL_len {k:Nat} {q:Rat} (h1:Sz k q.num) (h2:Sz k (q.den:Int)):(ratL q).length≤2*k+5:=by
  have a:=itoa_len h1
  have b:=itoa_len h2
  unfold ratL
  split
  · omega
  · simp only [List.length_append,List.length_singleton];omega
theorem r2_parts_q {k:Nat} (q:Rat) (h1:Sz k q.num) (h2:Sz k (q.den:Int)) (hk:k≤400000) (w:World):
    Calls Tryz.prog 99 #[.string ⟨(ratL q).toArray⟩] w fun e w'=>e=.returned (.tuple #[.string ⟨(Lib.itoa q.num).toArray⟩,.string ⟨(Lib.itoa (q.den:Int)).toArray⟩])∧Gr w w':=by
  have hl:=ratL_len h1 h2
  have:=r2_parts ⟨(ratL q).toArray⟩ w (by show (ratL q).toArray.size≤_;simp;omega)
  have e:(⟨(ratL q).toArray⟩:ByteArray).data.toList=ratL q:=by simp
  rw [e,numL_ratL,denL_ratL] at this
  exact this
theorem den_pos_i (q:Rat):0<(q.den:Int):=Int.natCast_pos.2 q.den_pos
theorem den2_pos (a b:Rat):0<(a.den:Int)*(b.den:Int):=Int.mul_pos (den_pos_i a) (den_pos_i b)
theorem rat_neg (a:Rat):Rat.divInt (-a.num) (a.den:Int)=-a:=by
  rw [← Rat.neg_divInt,Rat.num_divInt_den]
theorem rsz_neg {k:Nat} {a:Rat} (h:Sz k a.num∧Sz k (a.den:Int)):Sz k (-a).num∧Sz k ((-a).den:Int):=by
  rw [Rat.neg_num,Rat.neg_den]
  exact ⟨h.1.neg,h.2⟩
end Go.Proofs.YtaldbfflkpgfoaaGreatDoor
/- The walk through scale:a magnitude times a digit,plus a digit. -/
namespace Go.Proofs.YtaldbfflkpgfoaaGreatDoor
open Go.RowKit

set_option maxRecDepth 100000 in
set_option maxHeartbeats 2000000 in
theorem scale_c (ao:Option Addr) (la ca:Nat) (m x p:Int) (w:World) (hla:la≤900000) (ha:Mag w ao la ca m) (ac:0≤x) (ak:x<4294967296) (ah:0≤p) (aq:p<4294967296):
    Calls Tryz.prog 173 #[.slice ao la ca,.int .u32 x,.int .u32 p] w fun e w'=>(∃ go k cap,e=.returned (.slice go k cap)∧Mag w' go k cap (m*x+p)∧k≤la+1)∧Gr w w':=by
  go_enter Tryz.func173,Tryz.ntmps173
  go_wp2_with (at_make;refine wpList_make32 _ rfl _ _ rfl _ _ (la+1) rfl rfl (by omega) (by omega) (by omega) ?_)
  intro w1 hO hB hsz
  go_wp2
  go_loopw [8,19] (fun c i wr=>∃ (k:Nat) (cr:Int) (d:Nat→Int),k≤la∧i=.int .i64 k∧c=.int .u64 cr∧0≤cr∧cr<4294967296∧Hid (hi (m*x+p) k=hi m k*x+cr)∧Below w.heap.size w wr∧
      Own wr w.heap.size (la+1) d∧Hid (∀ j,j<k→d j=dg (m*x+p) j)) (fun _ i _=>la - (intOf i).toNat)
  case atStart=>exact ⟨0,p,_,Nat.zero_le _,rfl,rfl,ah,aq,by simp [Hid,hi_zero],hB,hO,fun j hj=>by omega⟩
  case round=>
    obtain ⟨k,cr,d,hk,rfl,rfl,ae,ai,hz,hB,hO,hd⟩:=hrel
    by_cases hlt:k<la
    · obtain ⟨b1,al,rfl,ab⟩:=(ha.row.below hB).at_ (by omega)
      have ad:=ab k hlt
      clear ab
      have d0:=dg_nonneg m k
      have d1:=dg_lt m k
      have aa:=hO.cell k (by omega)
      have hfree:=hO.free k
      have hs:=scale_step hz.out ae ai ac ak
      have z0:=hs.2.2.2.2.1
      have z1:=hs.2.2.2.2.2
      have z2:dg m k*x≤18446744065119617025:=by
        have:=Int.mul_le_mul (show dg m k≤4294967295 by omega) (show x≤4294967295 by omega) ac (by omega)
        omega
      have HS:=Lib.hid hs
      clear hs
      go_wp2
      have hs:=HS.out
      go_roundw
      case rel=>
        refine ⟨k+1,_,_,by omega,by go_num,rfl,hs.2.2.1,hs.2.2.2.1,hs.2.1,hB.setCell (Nat.le_refl _) _,hO.set (by omega) _,fun j hj=>?_⟩
        by_cases e:j=k
        · subst e;rw [upd_same,hs.1]
        · rw [upd_other _ _ e];exact hd.out j (by omega)
      case measure=>simp [intOf];omega
    · obtain rfl:k=la:=by omega
      have aa:=hO.cell k (by omega)
      have hfree:=hO.free k
      have aj:0≤m*x+p:=by have:=Int.mul_nonneg ha.nl.nonneg ac;omega
      have htop:hi (m*x+p) (k+1)=0:=by
        have h1:=hz.out
        rw [ha.nl.top,Int.zero_mul] at h1
        rw [hi_succ];omega
      have hdk:dg (m*x+p) k=cr:=by
        have h1:=hz.out
        rw [ha.nl.top,Int.zero_mul] at h1
        unfold dg;omega
      have HT:=Lib.hid htop
      have HD:=Lib.hid hdk
      clear htop hdk
      go_wp2_with fail
      have af:=(hO.set (Nat.lt_succ_self k) cr).congr (d':=dg (m*x+p)) (fun j hj=>by
        by_cases e:j=k
        · subst e;rw [upd_same,HD.out]
        · rw [upd_other _ _ e];exact hd.out j (by omega))
      refine (trim_c _ _ _ (m*x+p) _ (by omega) (Nat.le_refl _) aj HT.out af.row).mono ?_
      rintro e w3 ⟨⟨n,rfl,hm,hn⟩,rfl⟩
      go_wp2
      go_ret
      exact ⟨⟨_,_,_,rfl,hm,hn⟩,hB.setCell (Nat.le_refl _) _⟩
end Go.Proofs.YtaldbfflkpgfoaaGreatDoor
/- What the walk through integer.Parse meets:the library's functions,texts of digits. -/
namespace Go.Proofs.YtaldbfflkpgfoaaGreatDoor
open Go.RowKit

theorem valL_from (l:List UInt8):∀ acc:Nat,l.foldl (fun a c=>a*10+(c.toNat - 48)) acc=acc*10 ^ l.length+valL l:=by
  induction l with
  | nil=>intro acc;simp [valL]
  | cons c l ih=>
    intro acc
    have hv:valL (c::l)=(c.toNat - 48)*10 ^ l.length+valL l:=by
      show l.foldl _ (0*10+(c.toNat - 48))=_
      rw [ih];simp
    rw [List.foldl_cons,ih,hv,List.length_cons,Nat.pow_succ,Nat.add_mul]
    have:acc*10*10 ^ l.length=acc*(10 ^ l.length*10):=by grind
    omega
theorem valL_append (a b:List UInt8):valL (a++b)=valL a*10 ^ b.length+valL b:=by
  show (a++b).foldl _ 0=_
  rw [List.foldl_append,valL_from];rfl
theorem valL_lt (l:List UInt8) (h:∀ c ∈ l,48≤c.toNat∧c.toNat≤57):valL l<10 ^ l.length:=by
  induction l with
  | nil=>simp [valL]
  | cons c l ih=>
    have h1:=valL_append [c] l
    have h2:=ih (fun x hx=>h x (by simp [hx]))
    have h3:=h c (by simp)
    have h4:valL [c]≤9:=by simp [valL];omega
    rw [List.singleton_append] at h1
    rw [h1,List.length_cons,Nat.pow_succ]
    have:=Nat.mul_le_mul_right (10 ^ l.length) h4
    omega
theorem parseM:∀ (l:List UInt8) (acc:Nat),(∀ c ∈ l,48≤c.toNat∧c.toNat≤57)→acc*10 ^ l.length+10 ^ l.length≤1000000000→Lib.parseUintM (2 ^ 32 - 1) acc l=.ok (acc*10 ^ l.length+valL l)
  | [],acc,_,_=>by simp [Lib.parseUintM,valL]
  | c::l,acc,h,hb=>by
    have hc:=h c (by simp)
    have hp:0<10 ^ l.length:=Nat.pow_pos (by omega)
    rw [List.length_cons,Nat.pow_succ] at hb
    have h1:(acc+1)*(10 ^ l.length*10)≤1000000000:=by rw [Nat.add_mul];omega
    have h2:(acc+1)*10≤1000000000:=by
      have:(acc+1)*10≤(acc+1)*(10 ^ l.length*10):=Nat.mul_le_mul_left _ (by omega)
      omega
    have e:acc*(10 ^ l.length*10)=acc*10*10 ^ l.length:=by grind
    have h3:(c.toNat - 48)*10 ^ l.length≤9*10 ^ l.length:=Nat.mul_le_mul_right _ (by omega)
    have ih:=parseM l (acc*10+(c.toNat - 48)) (fun x hx=>h x (by simp [hx])) (by rw [Nat.add_mul];omega)
    unfold Lib.parseUintM
    rw [if_pos hc,if_neg (by omega),if_neg (by omega),ih]
    have h5:=valL_append [c] l
    rw [List.singleton_append] at h5
    have h6:valL [c]=c.toNat - 48:=by simp [valL]
    rw [h5,h6,List.length_cons,Nat.pow_succ,Nat.add_mul,e]
    congr 1
    omega
theorem parse32 {l:List UInt8} (h:∀ c ∈ l,48≤c.toNat∧c.toNat≤57) (h0:l≠[]) (h9:l.length≤9):Lib.parseUintB 32 l=.ok (valL l):=by
  unfold Lib.parseUintB
  rw [if_neg h0,parseM l 0 h (by
    have:10 ^ l.length≤10 ^ 9:=Nat.pow_le_pow_right (by omega) h9
    omega)]
  simp
theorem parse_uint (R:ByteArray) (h:∀ c ∈ R.data.toList,48≤c.toNat∧c.toNat≤57) (h0:0<R.size) (h9:R.size≤9) (w:World):
    Calls Tryz.prog 172 #[.string R,.int .i64 10,.int .i64 32] w fun e w'=>e=.returned (.tuple #[.int .u64 (valL R.data.toList:Int),.nilIface])∧Gr w w':=by
  have hl:R.data.toList.length=R.size:=by simp
  refine (Tryz.strconv_ParseUint_10_at32_ok R (by omega) (valL R.data.toList) (parse32 h (fun e=>by rw [e] at hl;simp at hl;omega) (by omega)) w).mono ?_
  rintro e w1 ⟨he,hw⟩
  refine ⟨he,?_⟩
  rcases hw with rfl | rfl
  · exact Gr.refl _
  · exact Go.Joins.below_bytesWorld _ _ _ _ (Nat.le_refl _)
/-- the closure:is it no digit? -/
theorem nodigit (x:Nat) (w:World):Calls Tryz.prog 171 #[.int .i32 (x:Int)] w fun e w'=>e=.returned (.bool (decide (x<48)||decide (57<x)))∧∃ q,w'=w.drewN q:=by
  by_cases h1:(x:Int)<48
  · have e1:decide (x<48)=true:=by simp;omega
    have E:=Lib.hid e1
    clear e1
    go_enter Tryz.func171,Tryz.ntmps171
    go_wp2
    go_ret
    exact ⟨by rw [E.out];rfl,0,rfl⟩
  · have e1:decide (x<48)=false:=by simp;omega
    by_cases h2:57<(x:Int)
    · have e2:(decide (x<48)||decide (57<x))=true:=by simp;omega
      have E:=Lib.hid e2
      clear e1 e2
      go_enter Tryz.func171,Tryz.ntmps171
      go_wp2
      go_ret
      exact ⟨by rw [E.out];rfl,0,rfl⟩
    · have e2:(decide (x<48)||decide (57<x))=false:=by simp;omega
      have E:=Lib.hid e2
      clear e1 e2
      go_enter Tryz.func171,Tryz.ntmps171
      go_wp2
      go_ret
      exact ⟨by rw [E.out];rfl,0,rfl⟩
theorem idx_none {D:ByteArray} (h:∀ c ∈ D.data.toList,48≤c.toNat∧c.toNat≤57):∀ (f pos:Nat),Lib.idxFuncFrom (fun x=>decide (x<48)||decide (57<x)) true D f pos=-1
  | 0,_=>rfl
  | f+1,pos=>by
    unfold Lib.idxFuncFrom
    by_cases hp:pos<D.size
    · have hc:=h D[pos] (List.mem_of_getElem? (toList_get hp))
      rw [if_pos hp,decode_ascii D pos hp (by omega),if_neg (by simp;omega)]
      exact idx_none h f _
    · rw [if_neg hp]
theorem contains_no (D:ByteArray) (h:∀ c ∈ D.data.toList,48≤c.toNat∧c.toNat≤57) (w:World):
    Calls Tryz.prog 170 #[.string D,.func (.func 171) #[] #[]] w fun e w'=>e=.returned (.bool false)∧Gr w w':=by
  refine (Tryz.strings_ContainsFunc 171 #[] (enters_of Tryz.func171 (by kernel_rfl) rfl) (fun x=>decide (x<48)||decide (57<x)) D w (fun W x _=>nodigit x W)).mono ?_
  rintro e w1 ⟨he,hb⟩
  refine ⟨?_,hb⟩
  rw [he]
  unfold Lib.idxFunc
  rw [idx_none h]
  rfl
end Go.Proofs.YtaldbfflkpgfoaaGreatDoor
/- The walk through integer.Parse. -/
namespace Go.Proofs.YtaldbfflkpgfoaaGreatDoor
open Go.RowKit

theorem cut_minus (z:Int) (w:World):Calls Tryz.prog 169 #[.string ⟨(Lib.itoa z).toArray⟩,.string ⟨#[45]⟩] w fun e w'=>
    e=.returned (.tuple #[.string ⟨(Lib.decDigits z.natAbs).toArray⟩,.bool (decide (z<0))])∧w=w':=by
  refine (Tryz.strings_CutPrefix _ _ _).mono ?_
  rintro e w1 ⟨he,rfl⟩
  refine ⟨?_,rfl⟩
  rw [he]
  show Ending.returned (.tuple #[.string ⟨(Lib.trimPrefix (Lib.itoa z) [45]).toArray⟩,.bool (Lib.hasPrefix (Lib.itoa z) [45])])=_
  by_cases h:z<0
  · have h1:Lib.hasPrefix (Lib.itoa z) [45]=true:=by rw [itoa_neg h];simp [Lib.hasPrefix]
    rw [Lib.trimPrefix,h1,if_pos rfl,itoa_neg h,decide_eq_true h];rfl
  · have h1:Lib.hasPrefix (Lib.itoa z) [45]=false:=by
      rw [itoa_nonneg (by omega)]
      rcases hd:Lib.decDigits z.natAbs with _ | ⟨c,l⟩
      · rfl
      · have hc:=dec_all z.natAbs c (by rw [hd];simp)
        have hne:¬ (45:UInt8)=c:=fun e=>by rw [← e] at hc;simp at hc
        simp [Lib.hasPrefix,List.isPrefixOf,hne]
    rw [Lib.trimPrefix,h1,if_neg (by decide),itoa_nonneg (by omega),decide_eq_false h]
def strSize (v:Value):Nat:=match v with | .string s=>s.size | _=>0
theorem extract_take (R:ByteArray) (q:Nat):(R.extract 0 q).data.toList=R.data.toList.take q:=by rw [Lib.extract_data];simp
theorem extract_drop (R:ByteArray) (q:Nat):(R.extract q R.size).data.toList=R.data.toList.drop q:=by
  rw [Lib.extract_data,List.take_of_length_le];simp
set_option maxRecDepth 100000 in
set_option maxHeartbeats 4000000 in
theorem parse_i {k:Nat} (z:Int) (hz:Sz k z) (hk:k≤60000) (w:World):
    Calls Tryz.prog 143 #[.string ⟨(Lib.itoa z).toArray⟩] w fun e w'=>(∃ x y,e=.returned (.tuple #[.agg #[x,y],.int .i64 0])∧IsInt w' k x y z)∧Gr w w':=by
  obtain ⟨n,hn⟩:∃ n,n=z.natAbs:=⟨_,rfl⟩
  have hnk:n<2 ^ k:=by rw [hn];exact hz
  have hlen:=dec_len_bits k n hnk
  have hit:(Lib.itoa z).length≤k+2:=by
    by_cases h:z<0
    · rw [itoa_neg h,← hn];simp;omega
    · rw [itoa_nonneg (by omega),← hn];omega
  obtain ⟨s,hs⟩:∃ s:ByteArray,s=⟨(Lib.itoa z).toArray⟩:=⟨_,rfl⟩
  have hss:s.size≤65536:=by rw [hs];show (Lib.itoa z).toArray.size≤_;simp;omega
  obtain ⟨D,hD⟩:∃ D:ByteArray,D=⟨(Lib.decDigits n).toArray⟩:=⟨_,rfl⟩
  have HD:Hid (D.data.toList=Lib.decDigits n):=by rw [Hid,hD]
  have hDs:D.size=(Lib.decDigits n).length:=by rw [hD];show (Lib.decDigits n).toArray.size=_;simp
  have aw:0<D.size:=by rw [hDs];exact dec_pos n
  have au:D.size≤60001:=by omega
  have hc:=cut_minus z (w.alloc (.cells #[.bool false,.slice none 0 0] 34))
  rw [← hn,← hD,← hs] at hc
  have hda:∀ c ∈ D.data.toList,48≤c.toNat∧c.toNat≤57:=by rw [HD.out];exact dec_all n
  have hcn:=contains_no D hda
  have hne:(D.toList==[])=false:=by
    rw [beq_eq_false_iff_ne,ByteArray.toList_eq,HD.out];exact dec_ne' n
  have av:(D[0].toNat:Int)=48→D.size=1∧n=0:=by
    intro h
    rcases Nat.eq_zero_or_pos n with e | e
    · rw [hDs,e];exact ⟨by rw [dec_zero];rfl,rfl⟩
    · obtain ⟨c,ay,aJ,_⟩:=dec_head e
      have:=getElem_toList HD.out aw ay
      rw [this] at h
      omega
  have HN:=Lib.hid hn
  have aC:=Lib.hid av
  have HDa:=Lib.hid hda
  have HDs:=Lib.hid hDs
  have HS:=Lib.hid hs
  rw [← hs]
  clear hn av hda hDs hD hit hs
  go_enter Tryz.func143,Tryz.ntmps143
  go_wp2_with fail
  (with_reducible refine hc.mono ?_)
  rintro e w1 ⟨rfl,rfl⟩
  clear hc
  go_wp2_with fail
  (with_reducible refine (hcn _).mono ?_)
  rintro e w2 ⟨rfl,g2⟩
  clear hcn
  by_cases h48:(D[0].toNat:Int)=48
  · have hzz:=aC.out h48
    have aK:¬ (1:Int)<(D.size:Int):=by omega
    have aL:¬ z<0:=by have:=HN.out;omega
    have aj:((D[0].toNat:Int)==48)=true:=by simpa using h48
    clear h48 hzz
    go_wp2
    go_loopw [4,6] (fun r m wr=>∃ (R:ByteArray) (V:Nat) (mo:Option Addr) (ml mc:Nat),r=.string R∧m=.slice mo ml mc∧ml≤k∧R.size≤60001∧Hid (Mag wr mo ml mc (V:Int)∧(∀ c ∈ R.data.toList,48≤c.toNat∧c.toNat≤57)∧V*10 ^ R.size+valL R.data.toList=n)∧Gr (w.alloc (.cells #[.bool false,.slice none 0 0] 34)) wr) (fun r _ _=>strSize r)
    case atStart=>exact ⟨D,0,none,0,0,rfl,rfl,by omega,au,⟨⟨Nat.le_refl _,NL.zero,Row.nil _ _ _⟩,HDa.out,by rw [HD.out,valL_dec];simp⟩,g2⟩
    case round=>
      obtain ⟨R,V,mo,ml,mc,rfl,rfl,hml,az,hh,hG⟩:=hrel
      by_cases hp:0<R.size
      · obtain ⟨q,hq⟩:∃ q:Nat,q=(R.size - 1) % 9+1:=⟨_,rfl⟩
        have ai:q≤9:=by omega
        have aF:0<q:=by omega
        have hqR:q≤R.size:=by omega
        have hqe:((R.size:Int) - 1) % 9+1=(q:Int):=by omega
        have HQ:=Lib.hid hq
        clear hq
        go_wp2
        obtain ⟨wo,hwo⟩:∃ wo:World,wo=wr:=⟨_,rfl⟩
        subst hwo
        go_loopw [8,48] (fun b i wq=>∃ (j:Nat) (x:Int),b=.int .u32 x∧i=.int .i64 j∧j≤q∧1≤x∧x≤1000000000∧Hid (x=10 ^ j)∧wq=wo) (fun _ i _=>q - (intOf i).toNat)
        case atStart=>exact ⟨0,1,rfl,rfl,by omega,by omega,by omega,rfl,rfl⟩
        case round=>
          obtain ⟨j,x,rfl,rfl,hj,aA,aD,hx,rfl⟩:=hrel
          by_cases hlt:j<q
          · have ax:x≤100000000:=by
              rw [hx.out]
              have h8:(10:Nat) ^ j≤100000000:=Nat.le_trans (Nat.pow_le_pow_right (by omega) (show j≤8 by omega)) (by decide)
              have h9:=Int.ofNat_le.2 h8
              rw [Int.natCast_pow] at h9
              exact h9
            go_wp2
            go_roundw
            case rel=>exact ⟨j+1,x*10,rfl,by go_num,by omega,by omega,by omega,by rw [Hid,hx.out,Int.pow_succ],by first | rfl | trivial⟩
            case measure=>simp [intOf];omega
          · obtain rfl:j=q:=by omega
            obtain ⟨T,hT⟩:∃ T,R.extract 0 j=T:=⟨_,rfl⟩
            obtain ⟨U,hU⟩:∃ U,R.extract j R.size=U:=⟨_,rfl⟩
            have hTl:T.data.toList=R.data.toList.take j:=by rw [← hT,extract_take]
            have hUl:U.data.toList=R.data.toList.drop j:=by rw [← hU,extract_drop]
            have hRl:R.data.toList.length=R.size:=by simp
            have hTs:T.size=j:=by
              have h1:=congrArg List.length hTl
              rw [List.length_take,hRl] at h1
              have h2:T.data.toList.length=T.size:=by simp
              omega
            have hUs:U.size=R.size - j:=by
              have h1:=congrArg List.length hUl
              rw [List.length_drop,hRl] at h1
              have h2:U.data.toList.length=U.size:=by simp
              omega
            obtain ⟨hm,hda,hval⟩:=hh.out
            have hTd:∀ c ∈ T.data.toList,48≤c.toNat∧c.toNat≤57:=fun c hc=>hda c (by rw [hTl] at hc;exact List.mem_of_mem_take hc)
            have hUd:∀ c ∈ U.data.toList,48≤c.toNat∧c.toNat≤57:=fun c hc=>hda c (by rw [hUl] at hc;exact List.mem_of_mem_drop hc)
            obtain ⟨u,hu⟩:∃ u,u=valL T.data.toList:=⟨_,rfl⟩
            have aG:u<1000000000:=by
              have h1:=valL_lt _ hTd
              have h2:T.data.toList.length=T.size:=by simp
              rw [h2,hTs] at h1
              have:(10:Nat) ^ j≤10 ^ 9:=Nat.pow_le_pow_right (by omega) ai
              omega
            have aa:(V*10 ^ j+u)*10 ^ U.size+valL U.data.toList=n:=by
              have h1:=valL_append (R.data.toList.take j) (R.data.toList.drop j)
              rw [List.take_append_drop,← hTl,← hUl] at h1
              have h2:U.data.toList.length=U.size:=by simp
              rw [h1,h2,← hu,show R.size=j+U.size by omega,Nat.pow_add] at hval
              rw [← hval];grind
            have hVk:V*10 ^ j+u<2 ^ k:=by
              have h1:V*10 ^ j+u≤(V*10 ^ j+u)*10 ^ U.size:=Nat.le_mul_of_pos_right _ (Nat.pow_pos (by omega))
              omega
            have hpu:=parse_uint T hTd (by omega) (by omega)
            rw [← hu] at hpu
            have ak:=Lib.hid aa
            have HVk:=Lib.hid hVk
            have HUd:=Lib.hid hUd
            have HX:=hx
            have aq:T.size≤9:=by omega
            have al:U.size<R.size:=by omega
            have ac:U.size≤60001:=by omega
            clear hTl hUl hRl hTd hUd hda hval aa hVk hu hTs hUs hqe
            have aH:(u:Int)<1000000000:=by omega
            go_wp2_with fail
            (with_reducible refine (hpu _).mono ?_)
            rintro e w5 ⟨rfl,g5⟩
            clear hpu
            go_wp2_with fail
            (with_reducible refine (scale_c mo ml mc (V:Int) x (u:Int) _ (by omega) (hm.kp g5.kp) (by omega) (by omega) (by omega) (by omega)).mono ?_)
            rintro e w6 ⟨⟨go,k6,c6,rfl,ad,aB⟩,g6⟩
            have ae:Mag w6 go k6 c6 ((V*10 ^ j+u:Nat):Int):=by
              rw [HX.out] at ad
              have e:((V*10 ^ j+u:Nat):Int)=(V:Int)*10 ^ j+(u:Int):=by push_cast;rfl
              rw [e];exact ad
            have ah:k6≤k:=ae.nl.len_sz (show Sz k _ by unfold Sz;rw [Int.natAbs_natCast];exact HVk.out)
            clear ad
            go_wp2
            go_roundw
            case rel=>exact ⟨U,V*10 ^ j+u,go,k6,c6,rfl,rfl,ah,ac,⟨ae,HUd.out,ak.out⟩,(hG.trans g5).trans g6⟩
            case measure=>simp [strSize];omega
      · have ab:R.size=0:=by omega
        obtain ⟨hm,hda,hval⟩:=hh.out
        have hVn:V=n:=by
          have h2:R.data.toList.length=R.size:=by simp
          have h1:R.data.toList=[]:=List.length_eq_zero_iff.1 (by rw [h2];exact ab)
          rw [h1,ab] at hval
          simpa [valL] using hval
        rw [hVn] at hm
        have aE:=Lib.hid ab
        clear ab hda hval hh hVn
        have p2:=Gr.heap hG (heap_alloc_new w (.cells #[.bool false,.slice none 0 0] 34))
        go_wp2_with fail
        (with_reducible refine (signed_c (decide (z<0)) mo ml mc (n:Int) _ (by omega) hm.cap hm.nl.nonneg hm.nl.top hm.row).mono ?_)
        rintro e w5 ⟨⟨k5,rfl,af,aI⟩,g5⟩
        have p3:=Gr.heap g5 p2
        have d0:=cells_of p3 0
        have d1:=cells_of p3 1
        have d2:=free_of p3
        have ar:Gr w w5:=(Gr.alloc w _).trans (hG.trans g5)
        have hint:=IsInt.mk' (z:=z) (s:=decide (z<0)) (k:=k) (af.gr g5) (by rw [HN.out]) (fun _=>rfl) hz
        obtain ⟨bb,hbb⟩:∃ bb,bb=(decide (z<0)&&decide (0<k5)):=⟨_,rfl⟩
        rw [← hbb] at hint ⊢
        clear hbb hm af p2
        go_wp2
        have p4:=heap_setCell_at (i:=1) (.slice mo k5 mc) (heap_setCell_at (i:=0) (.bool bb) p3)
        have hst:=(St.setCell w5 w.heap.size 0 (.bool bb)).trans (St.setCell _ w.heap.size 1 (.slice mo k5 mc))
        exact bodyPost_ret (v:=.tuple #[.agg #[.bool bb,.slice mo k5 mc],.int .i64 0]) (ret_cell_tmp' _ _ _ rfl rfl p4 (by kernel_rfl) rfl) rfl ⟨⟨_,_,rfl,hint.kp (hst.kp p3 (by decide))⟩,hst.gr ar (Nat.le_refl _)⟩
  · have aj:((D[0].toNat:Int)==48)=false:=by simpa using h48
    clear h48
    go_wp2
    go_loopw [4,6] (fun r m wr=>∃ (R:ByteArray) (V:Nat) (mo:Option Addr) (ml mc:Nat),r=.string R∧m=.slice mo ml mc∧ml≤k∧R.size≤60001∧Hid (Mag wr mo ml mc (V:Int)∧(∀ c ∈ R.data.toList,48≤c.toNat∧c.toNat≤57)∧V*10 ^ R.size+valL R.data.toList=n)∧Gr (w.alloc (.cells #[.bool false,.slice none 0 0] 34)) wr) (fun r _ _=>strSize r)
    case atStart=>exact ⟨D,0,none,0,0,rfl,rfl,by omega,au,⟨⟨Nat.le_refl _,NL.zero,Row.nil _ _ _⟩,HDa.out,by rw [HD.out,valL_dec];simp⟩,g2⟩
    case round=>
      obtain ⟨R,V,mo,ml,mc,rfl,rfl,hml,az,hh,hG⟩:=hrel
      by_cases hp:0<R.size
      · obtain ⟨q,hq⟩:∃ q:Nat,q=(R.size - 1) % 9+1:=⟨_,rfl⟩
        have ai:q≤9:=by omega
        have aF:0<q:=by omega
        have hqR:q≤R.size:=by omega
        have hqe:((R.size:Int) - 1) % 9+1=(q:Int):=by omega
        have HQ:=Lib.hid hq
        clear hq
        go_wp2
        obtain ⟨wo,hwo⟩:∃ wo:World,wo=wr:=⟨_,rfl⟩
        subst hwo
        go_loopw [8,48] (fun b i wq=>∃ (j:Nat) (x:Int),b=.int .u32 x∧i=.int .i64 j∧j≤q∧1≤x∧x≤1000000000∧Hid (x=10 ^ j)∧wq=wo) (fun _ i _=>q - (intOf i).toNat)
        case atStart=>exact ⟨0,1,rfl,rfl,by omega,by omega,by omega,rfl,rfl⟩
        case round=>
          obtain ⟨j,x,rfl,rfl,hj,aA,aD,hx,rfl⟩:=hrel
          by_cases hlt:j<q
          · have ax:x≤100000000:=by
              rw [hx.out]
              have h8:(10:Nat) ^ j≤100000000:=Nat.le_trans (Nat.pow_le_pow_right (by omega) (show j≤8 by omega)) (by decide)
              have h9:=Int.ofNat_le.2 h8
              rw [Int.natCast_pow] at h9
              exact h9
            go_wp2
            go_roundw
            case rel=>exact ⟨j+1,x*10,rfl,by go_num,by omega,by omega,by omega,by rw [Hid,hx.out,Int.pow_succ],by first | rfl | trivial⟩
            case measure=>simp [intOf];omega
          · obtain rfl:j=q:=by omega
            obtain ⟨T,hT⟩:∃ T,R.extract 0 j=T:=⟨_,rfl⟩
            obtain ⟨U,hU⟩:∃ U,R.extract j R.size=U:=⟨_,rfl⟩
            have hTl:T.data.toList=R.data.toList.take j:=by rw [← hT,extract_take]
            have hUl:U.data.toList=R.data.toList.drop j:=by rw [← hU,extract_drop]
            have hRl:R.data.toList.length=R.size:=by simp
            have hTs:T.size=j:=by
              have h1:=congrArg List.length hTl
              rw [List.length_take,hRl] at h1
              have h2:T.data.toList.length=T.size:=by simp
              omega
            have hUs:U.size=R.size - j:=by
              have h1:=congrArg List.length hUl
              rw [List.length_drop,hRl] at h1
              have h2:U.data.toList.length=U.size:=by simp
              omega
            obtain ⟨hm,hda,hval⟩:=hh.out
            have hTd:∀ c ∈ T.data.toList,48≤c.toNat∧c.toNat≤57:=fun c hc=>hda c (by rw [hTl] at hc;exact List.mem_of_mem_take hc)
            have hUd:∀ c ∈ U.data.toList,48≤c.toNat∧c.toNat≤57:=fun c hc=>hda c (by rw [hUl] at hc;exact List.mem_of_mem_drop hc)
            obtain ⟨u,hu⟩:∃ u,u=valL T.data.toList:=⟨_,rfl⟩
            have aG:u<1000000000:=by
              have h1:=valL_lt _ hTd
              have h2:T.data.toList.length=T.size:=by simp
              rw [h2,hTs] at h1
              have:(10:Nat) ^ j≤10 ^ 9:=Nat.pow_le_pow_right (by omega) ai
              omega
            have aa:(V*10 ^ j+u)*10 ^ U.size+valL U.data.toList=n:=by
              have h1:=valL_append (R.data.toList.take j) (R.data.toList.drop j)
              rw [List.take_append_drop,← hTl,← hUl] at h1
              have h2:U.data.toList.length=U.size:=by simp
              rw [h1,h2,← hu,show R.size=j+U.size by omega,Nat.pow_add] at hval
              rw [← hval];grind
            have hVk:V*10 ^ j+u<2 ^ k:=by
              have h1:V*10 ^ j+u≤(V*10 ^ j+u)*10 ^ U.size:=Nat.le_mul_of_pos_right _ (Nat.pow_pos (by omega))
              omega
            have hpu:=parse_uint T hTd (by omega) (by omega)
            rw [← hu] at hpu
            have ak:=Lib.hid aa
            have HVk:=Lib.hid hVk
            have HUd:=Lib.hid hUd
            have HX:=hx
            have aq:T.size≤9:=by omega
            have al:U.size<R.size:=by omega
            have ac:U.size≤60001:=by omega
            clear hTl hUl hRl hTd hUd hda hval aa hVk hu hTs hUs hqe
            have aH:(u:Int)<1000000000:=by omega
            go_wp2_with fail
            (with_reducible refine (hpu _).mono ?_)
            rintro e w5 ⟨rfl,g5⟩
            clear hpu
            go_wp2_with fail
            (with_reducible refine (scale_c mo ml mc (V:Int) x (u:Int) _ (by omega) (hm.kp g5.kp) (by omega) (by omega) (by omega) (by omega)).mono ?_)
            rintro e w6 ⟨⟨go,k6,c6,rfl,ad,aB⟩,g6⟩
            have ae:Mag w6 go k6 c6 ((V*10 ^ j+u:Nat):Int):=by
              rw [HX.out] at ad
              have e:((V*10 ^ j+u:Nat):Int)=(V:Int)*10 ^ j+(u:Int):=by push_cast;rfl
              rw [e];exact ad
            have ah:k6≤k:=ae.nl.len_sz (show Sz k _ by unfold Sz;rw [Int.natAbs_natCast];exact HVk.out)
            clear ad
            go_wp2
            go_roundw
            case rel=>exact ⟨U,V*10 ^ j+u,go,k6,c6,rfl,rfl,ah,ac,⟨ae,HUd.out,ak.out⟩,(hG.trans g5).trans g6⟩
            case measure=>simp [strSize];omega
      · have ab:R.size=0:=by omega
        obtain ⟨hm,hda,hval⟩:=hh.out
        have hVn:V=n:=by
          have h2:R.data.toList.length=R.size:=by simp
          have h1:R.data.toList=[]:=List.length_eq_zero_iff.1 (by rw [h2];exact ab)
          rw [h1,ab] at hval
          simpa [valL] using hval
        rw [hVn] at hm
        have aE:=Lib.hid ab
        clear ab hda hval hh hVn
        have p2:=Gr.heap hG (heap_alloc_new w (.cells #[.bool false,.slice none 0 0] 34))
        go_wp2_with fail
        (with_reducible refine (signed_c (decide (z<0)) mo ml mc (n:Int) _ (by omega) hm.cap hm.nl.nonneg hm.nl.top hm.row).mono ?_)
        rintro e w5 ⟨⟨k5,rfl,af,aI⟩,g5⟩
        have p3:=Gr.heap g5 p2
        have d0:=cells_of p3 0
        have d1:=cells_of p3 1
        have d2:=free_of p3
        have ar:Gr w w5:=(Gr.alloc w _).trans (hG.trans g5)
        have hint:=IsInt.mk' (z:=z) (s:=decide (z<0)) (k:=k) (af.gr g5) (by rw [HN.out]) (fun _=>rfl) hz
        obtain ⟨bb,hbb⟩:∃ bb,bb=(decide (z<0)&&decide (0<k5)):=⟨_,rfl⟩
        rw [← hbb] at hint ⊢
        clear hbb hm af p2
        go_wp2
        have p4:=heap_setCell_at (i:=1) (.slice mo k5 mc) (heap_setCell_at (i:=0) (.bool bb) p3)
        have hst:=(St.setCell w5 w.heap.size 0 (.bool bb)).trans (St.setCell _ w.heap.size 1 (.slice mo k5 mc))
        exact bodyPost_ret (v:=.tuple #[.agg #[.bool bb,.slice mo k5 mc],.int .i64 0]) (ret_cell_tmp' _ _ _ rfl rfl p4 (by kernel_rfl) rfl) rfl ⟨⟨_,_,rfl,hint.kp (hst.kp p3 (by decide))⟩,hst.gr ar (Nat.le_refl _)⟩
end Go.Proofs.YtaldbfflkpgfoaaGreatDoor
/- Printed by a program of the prover's:the reference of layer 2:the text of a quotient. -/
namespace Go.Proofs.YtaldbfflkpgfoaaGreatDoor
open Go.RowKit

set_option maxRecDepth 100000 in
set_option maxHeartbeats 4000000 in
theorem r2_text_p {k m:Nat} (x y:Int) (hx:Sz k x) (hy:Sz m y) (_hy0:0<y) (_hk:k+m≤60000) (w:World):
    Calls Tryz.prog 100 #[(.string ⟨(Lib.itoa (x):List UInt8).toArray⟩),(.string ⟨(Lib.itoa (y):List UInt8).toArray⟩)] w fun e w'=>e=.returned (.string ⟨(ratL (Rat.divInt x y)).toArray⟩)∧Gr w w':=by
 have hs:decide (sgn y<0)=false:=by rw [sgn_lt];simp;omega
 have h0:(0:Int)<y:=by omega
 have hgp:=(divInt_parts (N:=x) h0).2.2
 have aq:=itoa_len (sz_div (N:=x) hx hgp)
 have ar:=itoa_len (sz_div (N:=y) hy hgp)
 go_enter Tryz.func100,Tryz.ntmps100
 have hB:=Gr.refl w
 refine wp_seq_k (fun K1 k1=>?_)
 refine rg [0] ?_
 refine sv 4 (.string ⟨([]:List UInt8).toArray⟩) ?_
 refine sq_nil ?_
 refine k1 _ _ ?_
 try clear k1 K1
 refine wp_seq_k (fun K2 k2=>?_)
 refine wp_seq_k (fun K3 k3=>?_)
 refine rg [0,1,2] ?_
 refine sv 6 (.string ⟨(Lib.itoa (y):List UInt8).toArray⟩) ?_
 refine se ?_
 refine ec 7 (r1_sign_i (y) _) ?_
 rintro e4 w4 ⟨rfl,g4⟩
 refine ⟨_,rfl,?_⟩
 replace hB:=hB.trans g4
 simp only [p3,p4]
 refine sw 8 (.bool false) rfl (RunV.bool (x:=decide (sgn (y)<(0:Int))) (rvk (by kernel_rfl)) hs) ?_
 refine sq_nil ?_
 refine k3 _ _ ?_
 try clear k3 K3
 refine wp_cond_false rfl ?_
 refine wp_skip ?_
 refine k2 _ _ ?_
 try clear k2 K2
 refine wp_seq_k (fun K5 k5=>?_)
 refine rg [0,1,2,3] ?_
 refine sv 13 (.string ⟨(Lib.itoa (x):List UInt8).toArray⟩) ?_
 refine sv 14 (.string ⟨(Lib.itoa (y):List UInt8).toArray⟩) ?_
 refine se ?_
 refine ec 15 (r1_gcd (x) (y) hx hy (by omega) _) ?_
 rintro e6 w6 ⟨rfl,g6⟩
 refine ⟨_,rfl,?_⟩
 replace hB:=hB.trans g6
 simp only [p3,p4]
 refine sv 5 (.string ⟨(Lib.itoa ((Int.gcd (x) (y):Int)):List UInt8).toArray⟩) ?_
 refine sq_nil ?_
 refine k5 _ _ ?_
 try clear k5 K5
 refine wp_seq_k (fun K7 k7=>?_)
 refine rg [0,1,2,3,4,5,6] ?_
 refine sv 17 (.string ⟨(Lib.itoa (x):List UInt8).toArray⟩) ?_
 refine sv 18 (.string ⟨(Lib.itoa ((Int.gcd (x) (y):Int)):List UInt8).toArray⟩) ?_
 refine se ?_
 refine ec 19 (r1_divmod (x) ((Int.gcd (x) (y):Int)) hx (sz_gcd2 hx hy) hgp (by omega) _) ?_
 rintro e8 w8 ⟨rfl,g8⟩
 refine ⟨_,rfl,?_⟩
 replace hB:=hB.trans g8
 simp only [p3,p4]
 refine sv 16 (.tuple #[(.string ⟨(Lib.itoa (x/(Int.gcd (x) (y):Int)):List UInt8).toArray⟩),(.string ⟨(Lib.itoa (x % (Int.gcd (x) (y):Int)):List UInt8).toArray⟩)]) ?_
 refine sv 20 (.string ⟨(Lib.itoa (x/(Int.gcd (x) (y):Int)):List UInt8).toArray⟩) ?_
 refine sv 21 (.string ⟨(Lib.itoa (x % (Int.gcd (x) (y):Int)):List UInt8).toArray⟩) ?_
 refine sv 0 (.string ⟨(Lib.itoa (x/(Int.gcd (x) (y):Int)):List UInt8).toArray⟩) ?_
 refine sq_nil ?_
 refine k7 _ _ ?_
 try clear k7 K7
 refine wp_seq_k (fun K9 k9=>?_)
 refine rg [0,1,2,3,4,5,6] ?_
 refine sv 23 (.string ⟨(Lib.itoa (y):List UInt8).toArray⟩) ?_
 refine sv 24 (.string ⟨(Lib.itoa ((Int.gcd (x) (y):Int)):List UInt8).toArray⟩) ?_
 refine se ?_
 refine ec 25 (r1_divmod (y) ((Int.gcd (x) (y):Int)) hy (sz_gcd2 hx hy) hgp (by omega) _) ?_
 rintro al au ⟨rfl,ah⟩
 refine ⟨_,rfl,?_⟩
 replace hB:=hB.trans ah
 simp only [p3,p4]
 refine sv 22 (.tuple #[(.string ⟨(Lib.itoa (y/(Int.gcd (x) (y):Int)):List UInt8).toArray⟩),(.string ⟨(Lib.itoa (y % (Int.gcd (x) (y):Int)):List UInt8).toArray⟩)]) ?_
 refine sv 26 (.string ⟨(Lib.itoa (y/(Int.gcd (x) (y):Int)):List UInt8).toArray⟩) ?_
 refine sv 27 (.string ⟨(Lib.itoa (y % (Int.gcd (x) (y):Int)):List UInt8).toArray⟩) ?_
 refine sv 1 (.string ⟨(Lib.itoa (y/(Int.gcd (x) (y):Int)):List UInt8).toArray⟩) ?_
 refine sq_nil ?_
 refine k9 _ _ ?_
 try clear k9 K9
 refine wp_seq_k (fun ai ae=>?_)
 refine wp_seq_k (fun ak ab=>?_)
 refine rg [0,1] ?_
 refine sv 28 (.string ⟨(Lib.itoa (y/(Int.gcd (x) (y):Int)):List UInt8).toArray⟩) ?_
 refine sw 29 (.bool (((Lib.itoa (y/(Int.gcd (x) (y):Int)))==([49]:List UInt8)))) rfl (rv_seq 9 9 _ _ (Lib.itoa (y/(Int.gcd (x) (y):Int))) ([49]) rfl rfl rfl) ?_
 refine sq_nil ?_
 refine ab _ _ ?_
 try clear ab ak
 refine wp_cond_split (t:=((Lib.itoa (y/(Int.gcd (x) (y):Int)))==([49]:List UInt8))) rfl (fun aa=>?_) (fun aa=>?_)
 ·refine wp_seq_k (fun af ac=>?_)
  refine rg [0,1] ?_
  refine sv 30 (.string ⟨(Lib.itoa (x/(Int.gcd (x) (y):Int)):List UInt8).toArray⟩) ?_
  refine sv 4 (.string ⟨(Lib.itoa (x/(Int.gcd (x) (y):Int)):List UInt8).toArray⟩) ?_
  refine sq_nil ?_
  refine ac _ _ ?_
  try clear ac af
  refine wp_ret ?_
  simp only [Exit.then]
  refine bodyPost_ret (v:=(.string ⟨(Lib.itoa (x/(Int.gcd (x) (y):Int)):List UInt8).toArray⟩)) (ret_tmp rfl rfl) rfl ⟨?_,hB⟩
  exact (by rw [text_w h0 aa])
 ·refine wp_skip ?_
  refine ae _ _ ?_
  try clear ae ai
  refine wp_seq_k (fun aj ad=>?_)
  refine rg [0,1,2,3,4] ?_
  refine sv 31 (.string ⟨(Lib.itoa (x/(Int.gcd (x) (y):Int)):List UInt8).toArray⟩) ?_
  refine sw 32 (.string ⟨((Lib.itoa (x/(Int.gcd (x) (y):Int)))++([47]):List UInt8).toArray⟩) rfl (rv_cat 9 9 _ _ (Lib.itoa (x/(Int.gcd (x) (y):Int))) ([47]) rfl rfl rfl (by simp only [List.length_cons,List.length_nil];omega)) ?_
  refine sv 33 (.string ⟨(Lib.itoa (y/(Int.gcd (x) (y):Int)):List UInt8).toArray⟩) ?_
  refine sw 34 (.string ⟨(((Lib.itoa (x/(Int.gcd (x) (y):Int)))++([47]))++(Lib.itoa (y/(Int.gcd (x) (y):Int))):List UInt8).toArray⟩) rfl (rv_cat 9 9 _ _ ((Lib.itoa (x/(Int.gcd (x) (y):Int)))++([47])) (Lib.itoa (y/(Int.gcd (x) (y):Int))) rfl rfl rfl (by simp only [List.length_append,List.length_cons,List.length_nil];omega)) ?_
  refine sv 4 (.string ⟨(((Lib.itoa (x/(Int.gcd (x) (y):Int)))++([47]))++(Lib.itoa (y/(Int.gcd (x) (y):Int))):List UInt8).toArray⟩) ?_
  refine sq_nil ?_
  refine ad _ _ ?_
  try clear ad aj
  refine wp_ret ?_
  refine bodyPost_ret (v:=(.string ⟨(((Lib.itoa (x/(Int.gcd (x) (y):Int)))++([47]))++(Lib.itoa (y/(Int.gcd (x) (y):Int))):List UInt8).toArray⟩)) (ret_tmp rfl rfl) rfl ⟨?_,hB⟩
  exact (by rw [text_f h0 aa])

set_option maxRecDepth 100000 in
set_option maxHeartbeats 4000000 in
theorem r2_text_n {k m:Nat} (x y:Int) (hx:Sz k x) (hy:Sz m y) (_hy0:y<0) (_hk:k+m≤60000) (w:World):
    Calls Tryz.prog 100 #[(.string ⟨(Lib.itoa (x):List UInt8).toArray⟩),(.string ⟨(Lib.itoa (y):List UInt8).toArray⟩)] w fun e w'=>e=.returned (.string ⟨(ratL (Rat.divInt x y)).toArray⟩)∧Gr w w':=by
 have hs:decide (sgn y<0)=true:=by rw [sgn_lt];simp;omega
 have h0:(0:Int)< -y:=by omega
 have hgp:=(divInt_parts (N:=-x) h0).2.2
 have av:=itoa_len (sz_div (N:=-x) hx.neg hgp)
 have ax:=itoa_len (sz_div (N:=-y) hy.neg hgp)
 go_enter Tryz.func100,Tryz.ntmps100
 have hB:=Gr.refl w
 refine wp_seq_k (fun K1 k1=>?_)
 refine rg [0] ?_
 refine sv 4 (.string ⟨([]:List UInt8).toArray⟩) ?_
 refine sq_nil ?_
 refine k1 _ _ ?_
 try clear k1 K1
 refine wp_seq_k (fun K2 k2=>?_)
 refine wp_seq_k (fun K3 k3=>?_)
 refine rg [0,1,2] ?_
 refine sv 6 (.string ⟨(Lib.itoa (y):List UInt8).toArray⟩) ?_
 refine se ?_
 refine ec 7 (r1_sign_i (y) _) ?_
 rintro e4 w4 ⟨rfl,g4⟩
 refine ⟨_,rfl,?_⟩
 replace hB:=hB.trans g4
 simp only [p3,p4]
 refine sw 8 (.bool true) rfl (RunV.bool (x:=decide (sgn (y)<(0:Int))) (rvk (by kernel_rfl)) hs) ?_
 refine sq_nil ?_
 refine k3 _ _ ?_
 try clear k3 K3
 refine wp_cond_true rfl ?_
 refine rg [0,1,2,3,4,5] ?_
 refine sv 9 (.string ⟨(Lib.itoa (x):List UInt8).toArray⟩) ?_
 refine se ?_
 refine ec 10 (r1_neg (x) hx (by omega) _) ?_
 rintro e5 w5 ⟨rfl,g5⟩
 refine ⟨_,rfl,?_⟩
 replace hB:=hB.trans g5
 simp only [p3,p4]
 refine sv 11 (.string ⟨(Lib.itoa (y):List UInt8).toArray⟩) ?_
 refine se ?_
 refine ec 12 (r1_neg (y) hy (by omega) _) ?_
 rintro e6 w6 ⟨rfl,g6⟩
 refine ⟨_,rfl,?_⟩
 replace hB:=hB.trans g6
 simp only [p3,p4]
 refine sv 0 (.string ⟨(Lib.itoa (-x):List UInt8).toArray⟩) ?_
 refine sv 1 (.string ⟨(Lib.itoa (-y):List UInt8).toArray⟩) ?_
 refine sq_nil ?_
 refine k2 _ _ ?_
 try clear k2 K2
 refine wp_seq_k (fun K7 k7=>?_)
 refine rg [0,1,2,3] ?_
 refine sv 13 (.string ⟨(Lib.itoa (-x):List UInt8).toArray⟩) ?_
 refine sv 14 (.string ⟨(Lib.itoa (-y):List UInt8).toArray⟩) ?_
 refine se ?_
 refine ec 15 (r1_gcd (-x) (-y) hx.neg hy.neg (by omega) _) ?_
 rintro e8 w8 ⟨rfl,g8⟩
 refine ⟨_,rfl,?_⟩
 replace hB:=hB.trans g8
 simp only [p3,p4]
 refine sv 5 (.string ⟨(Lib.itoa ((Int.gcd (-x) (-y):Int)):List UInt8).toArray⟩) ?_
 refine sq_nil ?_
 refine k7 _ _ ?_
 try clear k7 K7
 refine wp_seq_k (fun K9 k9=>?_)
 refine rg [0,1,2,3,4,5,6] ?_
 refine sv 17 (.string ⟨(Lib.itoa (-x):List UInt8).toArray⟩) ?_
 refine sv 18 (.string ⟨(Lib.itoa ((Int.gcd (-x) (-y):Int)):List UInt8).toArray⟩) ?_
 refine se ?_
 refine ec 19 (r1_divmod (-x) ((Int.gcd (-x) (-y):Int)) hx.neg (sz_gcd2 hx.neg hy.neg) hgp (by omega) _) ?_
 rintro au ay ⟨rfl,ai⟩
 refine ⟨_,rfl,?_⟩
 replace hB:=hB.trans ai
 simp only [p3,p4]
 refine sv 16 (.tuple #[(.string ⟨(Lib.itoa ((-x)/(Int.gcd (-x) (-y):Int)):List UInt8).toArray⟩),(.string ⟨(Lib.itoa ((-x) % (Int.gcd (-x) (-y):Int)):List UInt8).toArray⟩)]) ?_
 refine sv 20 (.string ⟨(Lib.itoa ((-x)/(Int.gcd (-x) (-y):Int)):List UInt8).toArray⟩) ?_
 refine sv 21 (.string ⟨(Lib.itoa ((-x) % (Int.gcd (-x) (-y):Int)):List UInt8).toArray⟩) ?_
 refine sv 0 (.string ⟨(Lib.itoa ((-x)/(Int.gcd (-x) (-y):Int)):List UInt8).toArray⟩) ?_
 refine sq_nil ?_
 refine k9 _ _ ?_
 try clear k9 K9
 refine wp_seq_k (fun ak af=>?_)
 refine rg [0,1,2,3,4,5,6] ?_
 refine sv 23 (.string ⟨(Lib.itoa (-y):List UInt8).toArray⟩) ?_
 refine sv 24 (.string ⟨(Lib.itoa ((Int.gcd (-x) (-y):Int)):List UInt8).toArray⟩) ?_
 refine se ?_
 refine ec 25 (r1_divmod (-y) ((Int.gcd (-x) (-y):Int)) hy.neg (sz_gcd2 hx.neg hy.neg) hgp (by omega) _) ?_
 rintro e12 aw ⟨rfl,aq⟩
 refine ⟨_,rfl,?_⟩
 replace hB:=hB.trans aq
 simp only [p3,p4]
 refine sv 22 (.tuple #[(.string ⟨(Lib.itoa ((-y)/(Int.gcd (-x) (-y):Int)):List UInt8).toArray⟩),(.string ⟨(Lib.itoa ((-y) % (Int.gcd (-x) (-y):Int)):List UInt8).toArray⟩)]) ?_
 refine sv 26 (.string ⟨(Lib.itoa ((-y)/(Int.gcd (-x) (-y):Int)):List UInt8).toArray⟩) ?_
 refine sv 27 (.string ⟨(Lib.itoa ((-y) % (Int.gcd (-x) (-y):Int)):List UInt8).toArray⟩) ?_
 refine sv 1 (.string ⟨(Lib.itoa ((-y)/(Int.gcd (-x) (-y):Int)):List UInt8).toArray⟩) ?_
 refine sq_nil ?_
 refine af _ _ ?_
 try clear af ak
 refine wp_seq_k (fun al ab=>?_)
 refine wp_seq_k (fun ah ac=>?_)
 refine rg [0,1] ?_
 refine sv 28 (.string ⟨(Lib.itoa ((-y)/(Int.gcd (-x) (-y):Int)):List UInt8).toArray⟩) ?_
 refine sw 29 (.bool (((Lib.itoa ((-y)/(Int.gcd (-x) (-y):Int)))==([49]:List UInt8)))) rfl (rv_seq 9 9 _ _ (Lib.itoa ((-y)/(Int.gcd (-x) (-y):Int))) ([49]) rfl rfl rfl) ?_
 refine sq_nil ?_
 refine ac _ _ ?_
 try clear ac ah
 refine wp_cond_split (t:=((Lib.itoa ((-y)/(Int.gcd (-x) (-y):Int)))==([49]:List UInt8))) rfl (fun aa=>?_) (fun aa=>?_)
 ·refine wp_seq_k (fun ar ae=>?_)
  refine rg [0,1] ?_
  refine sv 30 (.string ⟨(Lib.itoa ((-x)/(Int.gcd (-x) (-y):Int)):List UInt8).toArray⟩) ?_
  refine sv 4 (.string ⟨(Lib.itoa ((-x)/(Int.gcd (-x) (-y):Int)):List UInt8).toArray⟩) ?_
  refine sq_nil ?_
  refine ae _ _ ?_
  try clear ae ar
  refine wp_ret ?_
  simp only [Exit.then]
  refine bodyPost_ret (v:=(.string ⟨(Lib.itoa ((-x)/(Int.gcd (-x) (-y):Int)):List UInt8).toArray⟩)) (ret_tmp rfl rfl) rfl ⟨?_,hB⟩
  exact (by rw [text_w h0 aa];rw [divInt_neg2])
 ·refine wp_skip ?_
  refine ab _ _ ?_
  try clear ab al
  refine wp_seq_k (fun aj ad=>?_)
  refine rg [0,1,2,3,4] ?_
  refine sv 31 (.string ⟨(Lib.itoa ((-x)/(Int.gcd (-x) (-y):Int)):List UInt8).toArray⟩) ?_
  refine sw 32 (.string ⟨((Lib.itoa ((-x)/(Int.gcd (-x) (-y):Int)))++([47]):List UInt8).toArray⟩) rfl (rv_cat 9 9 _ _ (Lib.itoa ((-x)/(Int.gcd (-x) (-y):Int))) ([47]) rfl rfl rfl (by simp only [List.length_cons,List.length_nil];omega)) ?_
  refine sv 33 (.string ⟨(Lib.itoa ((-y)/(Int.gcd (-x) (-y):Int)):List UInt8).toArray⟩) ?_
  refine sw 34 (.string ⟨(((Lib.itoa ((-x)/(Int.gcd (-x) (-y):Int)))++([47]))++(Lib.itoa ((-y)/(Int.gcd (-x) (-y):Int))):List UInt8).toArray⟩) rfl (rv_cat 9 9 _ _ ((Lib.itoa ((-x)/(Int.gcd (-x) (-y):Int)))++([47])) (Lib.itoa ((-y)/(Int.gcd (-x) (-y):Int))) rfl rfl rfl (by simp only [List.length_append,List.length_cons,List.length_nil];omega)) ?_
  refine sv 4 (.string ⟨(((Lib.itoa ((-x)/(Int.gcd (-x) (-y):Int)))++([47]))++(Lib.itoa ((-y)/(Int.gcd (-x) (-y):Int))):List UInt8).toArray⟩) ?_
  refine sq_nil ?_
  refine ad _ _ ?_
  try clear ad aj
  refine wp_ret ?_
  refine bodyPost_ret (v:=(.string ⟨(((Lib.itoa ((-x)/(Int.gcd (-x) (-y):Int)))++([47]))++(Lib.itoa ((-y)/(Int.gcd (-x) (-y):Int))):List UInt8).toArray⟩)) (ret_tmp rfl rfl) rfl ⟨?_,hB⟩
  exact (by rw [text_f h0 aa];rw [divInt_neg2])

end Go.Proofs.YtaldbfflkpgfoaaGreatDoor
/- Printed by a program of the prover's:the reference of layer 2:sums,products,orders. -/
namespace Go.Proofs.YtaldbfflkpgfoaaGreatDoor
open Go.RowKit

set_option maxRecDepth 100000 in
set_option maxHeartbeats 1000000 in
theorem r2_neg {k:Nat} (a:Rat) (ha:Sz k a.num∧Sz k (a.den:Int)) (_hk:k≤19998) (w:World):
    Calls Tryz.prog 115 #[(.string ⟨(ratL (a):List UInt8).toArray⟩)] w fun e w'=>e=.returned (.string ⟨(ratL (-a)).toArray⟩)∧Gr w w':=by
 go_enter Tryz.func115,Tryz.ntmps115
 have hB:=Gr.refl w
 refine wp_seq_k (fun K1 k1=>?_)
 refine rg [0] ?_
 refine sv 2 (.string ⟨([]:List UInt8).toArray⟩) ?_
 refine sq_nil ?_
 refine k1 _ _ ?_
 try clear k1 K1
 refine wp_seq_k (fun K2 k2=>?_)
 refine rg [0,1,2,3,4,5,6] ?_
 refine sv 6 (.string ⟨(ratL (a):List UInt8).toArray⟩) ?_
 refine se ?_
 refine ec 7 (r2_parts_q (a) ha.1 ha.2 (by omega) _) ?_
 rintro e3 w3 ⟨rfl,g3⟩
 refine ⟨_,rfl,?_⟩
 replace hB:=hB.trans g3
 simp only [p3,p4]
 refine sv 5 (.tuple #[(.string ⟨(Lib.itoa (a.num):List UInt8).toArray⟩),(.string ⟨(Lib.itoa ((a.den:Int)):List UInt8).toArray⟩)]) ?_
 refine sv 8 (.string ⟨(Lib.itoa (a.num):List UInt8).toArray⟩) ?_
 refine sv 9 (.string ⟨(Lib.itoa ((a.den:Int)):List UInt8).toArray⟩) ?_
 refine sv 3 (.string ⟨(Lib.itoa (a.num):List UInt8).toArray⟩) ?_
 refine sv 4 (.string ⟨(Lib.itoa ((a.den:Int)):List UInt8).toArray⟩) ?_
 refine sq_nil ?_
 refine k2 _ _ ?_
 try clear k2 K2
 refine wp_seq_k (fun K4 k4=>?_)
 refine rg [0,1,2,3,4] ?_
 refine sv 10 (.string ⟨(Lib.itoa (a.num):List UInt8).toArray⟩) ?_
 refine se ?_
 refine ec 11 (r1_neg (a.num) ha.1 (by omega) _) ?_
 rintro e5 w5 ⟨rfl,g5⟩
 refine ⟨_,rfl,?_⟩
 replace hB:=hB.trans g5
 simp only [p3,p4]
 refine sv 12 (.string ⟨(Lib.itoa ((a.den:Int)):List UInt8).toArray⟩) ?_
 refine se ?_
 refine ec 13 (r2_text_p (-a.num) ((a.den:Int)) ha.1.neg ha.2 (den_pos_i a) (by omega) _) ?_
 rintro e6 w6 ⟨rfl,g6⟩
 refine ⟨_,rfl,?_⟩
 replace hB:=hB.trans g6
 simp only [p3,p4]
 refine sv 2 (.string ⟨(ratL (Rat.divInt (-a.num) ((a.den:Int))):List UInt8).toArray⟩) ?_
 refine sq_nil ?_
 refine k4 _ _ ?_
 try clear k4 K4
 refine wp_ret ?_
 refine bodyPost_ret (v:=(.string ⟨(ratL (Rat.divInt (-a.num) ((a.den:Int))):List UInt8).toArray⟩)) (ret_tmp rfl rfl) rfl ⟨?_,hB⟩
 exact (by rw [rat_neg])

set_option maxRecDepth 100000 in
set_option maxHeartbeats 1000000 in
theorem r2_add {k m:Nat} (a b:Rat) (ha:Sz k a.num∧Sz k (a.den:Int)) (hb:Sz m b.num∧Sz m (b.den:Int)) (_hk:k+m≤19998) (w:World):
    Calls Tryz.prog 105 #[(.string ⟨(ratL (a):List UInt8).toArray⟩),(.string ⟨(ratL (b):List UInt8).toArray⟩)] w fun e w'=>e=.returned (.string ⟨(ratL (a+b)).toArray⟩)∧Gr w w':=by
 go_enter Tryz.func105,Tryz.ntmps105
 have hB:=Gr.refl w
 refine wp_seq_k (fun K1 k1=>?_)
 refine rg [0] ?_
 refine sv 4 (.string ⟨([]:List UInt8).toArray⟩) ?_
 refine sq_nil ?_
 refine k1 _ _ ?_
 try clear k1 K1
 refine wp_seq_k (fun K2 k2=>?_)
 refine rg [0,1,2,3,4,5,6] ?_
 refine sv 10 (.string ⟨(ratL (a):List UInt8).toArray⟩) ?_
 refine se ?_
 refine ec 11 (r2_parts_q (a) ha.1 ha.2 (by omega) _) ?_
 rintro e3 w3 ⟨rfl,g3⟩
 refine ⟨_,rfl,?_⟩
 replace hB:=hB.trans g3
 simp only [p3,p4]
 refine sv 9 (.tuple #[(.string ⟨(Lib.itoa (a.num):List UInt8).toArray⟩),(.string ⟨(Lib.itoa ((a.den:Int)):List UInt8).toArray⟩)]) ?_
 refine sv 12 (.string ⟨(Lib.itoa (a.num):List UInt8).toArray⟩) ?_
 refine sv 13 (.string ⟨(Lib.itoa ((a.den:Int)):List UInt8).toArray⟩) ?_
 refine sv 5 (.string ⟨(Lib.itoa (a.num):List UInt8).toArray⟩) ?_
 refine sv 6 (.string ⟨(Lib.itoa ((a.den:Int)):List UInt8).toArray⟩) ?_
 refine sq_nil ?_
 refine k2 _ _ ?_
 try clear k2 K2
 refine wp_seq_k (fun K4 k4=>?_)
 refine rg [0,1,2,3,4,5,6] ?_
 refine sv 15 (.string ⟨(ratL (b):List UInt8).toArray⟩) ?_
 refine se ?_
 refine ec 16 (r2_parts_q (b) hb.1 hb.2 (by omega) _) ?_
 rintro e5 w5 ⟨rfl,g5⟩
 refine ⟨_,rfl,?_⟩
 replace hB:=hB.trans g5
 simp only [p3,p4]
 refine sv 14 (.tuple #[(.string ⟨(Lib.itoa (b.num):List UInt8).toArray⟩),(.string ⟨(Lib.itoa ((b.den:Int)):List UInt8).toArray⟩)]) ?_
 refine sv 17 (.string ⟨(Lib.itoa (b.num):List UInt8).toArray⟩) ?_
 refine sv 18 (.string ⟨(Lib.itoa ((b.den:Int)):List UInt8).toArray⟩) ?_
 refine sv 7 (.string ⟨(Lib.itoa (b.num):List UInt8).toArray⟩) ?_
 refine sv 8 (.string ⟨(Lib.itoa ((b.den:Int)):List UInt8).toArray⟩) ?_
 refine sq_nil ?_
 refine k4 _ _ ?_
 try clear k4 K4
 refine wp_seq_k (fun K6 k6=>?_)
 refine rg [0,1,2,3,4,5,6,7,8,9,10,11] ?_
 refine sv 19 (.string ⟨(Lib.itoa (a.num):List UInt8).toArray⟩) ?_
 refine sv 20 (.string ⟨(Lib.itoa ((b.den:Int)):List UInt8).toArray⟩) ?_
 refine se ?_
 refine ec 21 (r1_mul (a.num) ((b.den:Int)) ha.1 hb.2 (by omega) _) ?_
 rintro e7 w7 ⟨rfl,g7⟩
 refine ⟨_,rfl,?_⟩
 replace hB:=hB.trans g7
 simp only [p3,p4]
 refine sv 22 (.string ⟨(Lib.itoa (b.num):List UInt8).toArray⟩) ?_
 refine sv 23 (.string ⟨(Lib.itoa ((a.den:Int)):List UInt8).toArray⟩) ?_
 refine se ?_
 refine ec 24 (r1_mul (b.num) ((a.den:Int)) hb.1 ha.2 (by omega) _) ?_
 rintro e8 w8 ⟨rfl,g8⟩
 refine ⟨_,rfl,?_⟩
 replace hB:=hB.trans g8
 simp only [p3,p4]
 refine se ?_
 refine ec 25 (r1_add (a.num*(b.den:Int)) (b.num*(a.den:Int)) (ha.1.mul hb.2) (hb.1.mul ha.2) (by omega) _) ?_
 rintro e9 w9 ⟨rfl,g9⟩
 refine ⟨_,rfl,?_⟩
 replace hB:=hB.trans g9
 simp only [p3,p4]
 refine sv 26 (.string ⟨(Lib.itoa ((a.den:Int)):List UInt8).toArray⟩) ?_
 refine sv 27 (.string ⟨(Lib.itoa ((b.den:Int)):List UInt8).toArray⟩) ?_
 refine se ?_
 refine ec 28 (r1_mul ((a.den:Int)) ((b.den:Int)) ha.2 hb.2 (by omega) _) ?_
 rintro ad ac ⟨rfl,ab⟩
 refine ⟨_,rfl,?_⟩
 replace hB:=hB.trans ab
 simp only [p3,p4]
 refine se ?_
 refine ec 29 (r2_text_p (a.num*(b.den:Int)+b.num*(a.den:Int)) ((a.den:Int)*(b.den:Int)) ((ha.1.mul hb.2).add (hb.1.mul ha.2)) (ha.2.mul hb.2) (den2_pos a b) (by omega) _) ?_
 rintro e11 ae ⟨rfl,aa⟩
 refine ⟨_,rfl,?_⟩
 replace hB:=hB.trans aa
 simp only [p3,p4]
 refine sv 4 (.string ⟨(ratL (Rat.divInt (a.num*(b.den:Int)+b.num*(a.den:Int)) ((a.den:Int)*(b.den:Int))):List UInt8).toArray⟩) ?_
 refine sq_nil ?_
 refine k6 _ _ ?_
 try clear k6 K6
 refine wp_ret ?_
 refine bodyPost_ret (v:=(.string ⟨(ratL (Rat.divInt (a.num*(b.den:Int)+b.num*(a.den:Int)) ((a.den:Int)*(b.den:Int))):List UInt8).toArray⟩)) (ret_tmp rfl rfl) rfl ⟨?_,hB⟩
 exact (by rw [rat_add])

set_option maxRecDepth 100000 in
set_option maxHeartbeats 1000000 in
theorem r2_mul {k m:Nat} (a b:Rat) (ha:Sz k a.num∧Sz k (a.den:Int)) (hb:Sz m b.num∧Sz m (b.den:Int)) (_hk:k+m≤19998) (w:World):
    Calls Tryz.prog 106 #[(.string ⟨(ratL (a):List UInt8).toArray⟩),(.string ⟨(ratL (b):List UInt8).toArray⟩)] w fun e w'=>e=.returned (.string ⟨(ratL (a*b)).toArray⟩)∧Gr w w':=by
 go_enter Tryz.func106,Tryz.ntmps106
 have hB:=Gr.refl w
 refine wp_seq_k (fun K1 k1=>?_)
 refine rg [0] ?_
 refine sv 4 (.string ⟨([]:List UInt8).toArray⟩) ?_
 refine sq_nil ?_
 refine k1 _ _ ?_
 try clear k1 K1
 refine wp_seq_k (fun K2 k2=>?_)
 refine rg [0,1,2,3,4,5,6] ?_
 refine sv 10 (.string ⟨(ratL (a):List UInt8).toArray⟩) ?_
 refine se ?_
 refine ec 11 (r2_parts_q (a) ha.1 ha.2 (by omega) _) ?_
 rintro e3 w3 ⟨rfl,g3⟩
 refine ⟨_,rfl,?_⟩
 replace hB:=hB.trans g3
 simp only [p3,p4]
 refine sv 9 (.tuple #[(.string ⟨(Lib.itoa (a.num):List UInt8).toArray⟩),(.string ⟨(Lib.itoa ((a.den:Int)):List UInt8).toArray⟩)]) ?_
 refine sv 12 (.string ⟨(Lib.itoa (a.num):List UInt8).toArray⟩) ?_
 refine sv 13 (.string ⟨(Lib.itoa ((a.den:Int)):List UInt8).toArray⟩) ?_
 refine sv 5 (.string ⟨(Lib.itoa (a.num):List UInt8).toArray⟩) ?_
 refine sv 6 (.string ⟨(Lib.itoa ((a.den:Int)):List UInt8).toArray⟩) ?_
 refine sq_nil ?_
 refine k2 _ _ ?_
 try clear k2 K2
 refine wp_seq_k (fun K4 k4=>?_)
 refine rg [0,1,2,3,4,5,6] ?_
 refine sv 15 (.string ⟨(ratL (b):List UInt8).toArray⟩) ?_
 refine se ?_
 refine ec 16 (r2_parts_q (b) hb.1 hb.2 (by omega) _) ?_
 rintro e5 w5 ⟨rfl,g5⟩
 refine ⟨_,rfl,?_⟩
 replace hB:=hB.trans g5
 simp only [p3,p4]
 refine sv 14 (.tuple #[(.string ⟨(Lib.itoa (b.num):List UInt8).toArray⟩),(.string ⟨(Lib.itoa ((b.den:Int)):List UInt8).toArray⟩)]) ?_
 refine sv 17 (.string ⟨(Lib.itoa (b.num):List UInt8).toArray⟩) ?_
 refine sv 18 (.string ⟨(Lib.itoa ((b.den:Int)):List UInt8).toArray⟩) ?_
 refine sv 7 (.string ⟨(Lib.itoa (b.num):List UInt8).toArray⟩) ?_
 refine sv 8 (.string ⟨(Lib.itoa ((b.den:Int)):List UInt8).toArray⟩) ?_
 refine sq_nil ?_
 refine k4 _ _ ?_
 try clear k4 K4
 refine wp_seq_k (fun K6 k6=>?_)
 refine rg [0,1,2,3,4,5,6,7] ?_
 refine sv 19 (.string ⟨(Lib.itoa (a.num):List UInt8).toArray⟩) ?_
 refine sv 20 (.string ⟨(Lib.itoa (b.num):List UInt8).toArray⟩) ?_
 refine se ?_
 refine ec 21 (r1_mul (a.num) (b.num) ha.1 hb.1 (by omega) _) ?_
 rintro e7 w7 ⟨rfl,g7⟩
 refine ⟨_,rfl,?_⟩
 replace hB:=hB.trans g7
 simp only [p3,p4]
 refine sv 22 (.string ⟨(Lib.itoa ((a.den:Int)):List UInt8).toArray⟩) ?_
 refine sv 23 (.string ⟨(Lib.itoa ((b.den:Int)):List UInt8).toArray⟩) ?_
 refine se ?_
 refine ec 24 (r1_mul ((a.den:Int)) ((b.den:Int)) ha.2 hb.2 (by omega) _) ?_
 rintro e8 w8 ⟨rfl,g8⟩
 refine ⟨_,rfl,?_⟩
 replace hB:=hB.trans g8
 simp only [p3,p4]
 refine se ?_
 refine ec 25 (r2_text_p (a.num*b.num) ((a.den:Int)*(b.den:Int)) (ha.1.mul hb.1) (ha.2.mul hb.2) (den2_pos a b) (by omega) _) ?_
 rintro e9 w9 ⟨rfl,g9⟩
 refine ⟨_,rfl,?_⟩
 replace hB:=hB.trans g9
 simp only [p3,p4]
 refine sv 4 (.string ⟨(ratL (Rat.divInt (a.num*b.num) ((a.den:Int)*(b.den:Int))):List UInt8).toArray⟩) ?_
 refine sq_nil ?_
 refine k6 _ _ ?_
 try clear k6 K6
 refine wp_ret ?_
 refine bodyPost_ret (v:=(.string ⟨(ratL (Rat.divInt (a.num*b.num) ((a.den:Int)*(b.den:Int))):List UInt8).toArray⟩)) (ret_tmp rfl rfl) rfl ⟨?_,hB⟩
 exact (by rw [rat_mul])

set_option maxRecDepth 100000 in
set_option maxHeartbeats 1000000 in
theorem r2_sub {k m:Nat} (a b:Rat) (ha:Sz k a.num∧Sz k (a.den:Int)) (hb:Sz m b.num∧Sz m (b.den:Int)) (_hk:k+m≤19998) (w:World):
    Calls Tryz.prog 132 #[(.string ⟨(ratL (a):List UInt8).toArray⟩),(.string ⟨(ratL (b):List UInt8).toArray⟩)] w fun e w'=>e=.returned (.string ⟨(ratL (a - b)).toArray⟩)∧Gr w w':=by
 go_enter Tryz.func132,Tryz.ntmps132
 have hB:=Gr.refl w
 refine wp_seq_k (fun K1 k1=>?_)
 refine rg [0] ?_
 refine sv 4 (.string ⟨([]:List UInt8).toArray⟩) ?_
 refine sq_nil ?_
 refine k1 _ _ ?_
 try clear k1 K1
 refine wp_seq_k (fun K2 k2=>?_)
 refine rg [0,1,2,3,4] ?_
 refine sv 5 (.string ⟨(ratL (a):List UInt8).toArray⟩) ?_
 refine sv 6 (.string ⟨(ratL (b):List UInt8).toArray⟩) ?_
 refine se ?_
 refine ec 7 (r2_neg (b) hb (by omega) _) ?_
 rintro e3 w3 ⟨rfl,g3⟩
 refine ⟨_,rfl,?_⟩
 replace hB:=hB.trans g3
 simp only [p3,p4]
 refine se ?_
 refine ec 8 (r2_add (a) (-b) ha (rsz_neg hb) (by omega) _) ?_
 rintro e4 w4 ⟨rfl,g4⟩
 refine ⟨_,rfl,?_⟩
 replace hB:=hB.trans g4
 simp only [p3,p4]
 refine sv 4 (.string ⟨(ratL (a+-b):List UInt8).toArray⟩) ?_
 refine sq_nil ?_
 refine k2 _ _ ?_
 try clear k2 K2
 refine wp_ret ?_
 refine bodyPost_ret (v:=(.string ⟨(ratL (a+-b):List UInt8).toArray⟩)) (ret_tmp rfl rfl) rfl ⟨?_,hB⟩
 exact (by rw [Rat.sub_eq_add_neg])

end Go.Proofs.YtaldbfflkpgfoaaGreatDoor
/- Printed by a program of the prover's:reduced,with a negative denominator. -/
namespace Go.Proofs.YtaldbfflkpgfoaaGreatDoor
open Go.RowKit

set_option maxRecDepth 100000 in
set_option maxHeartbeats 1000000 in
theorem reduced_n1 {k:Nat} {n0 n1 d0 d1:Value} {N D:Int} {w:World} (hn:IsInt w k n0 n1 N) (hd:IsInt w k d0 d1 D) (_hk:k+k+k+k+k+k+66≤1000000) (_h0:D<0) (hg:(sgn ((Int.gcd ((-N)) ((-D)):Int) - 1) !=0)=false):
    Calls Tryz.prog 95 #[(.agg #[n0,n1]),(.agg #[d0,d1])] w fun e w'=>(∃ x y x2 y2,e=.returned (.agg #[x,y,x2,y2])∧IsInt w' k x y ((-N))∧IsInt w' k x2 y2 ((-D)))∧Gr w w':=by
 go_enter Tryz.func95,Tryz.ntmps95
 have hB:=Gr.refl w
 refine wp_seq_k (fun K1 k1=>?_)
 refine rg [0,1,2] ?_
 refine se ?_
 refine eb 34 #[n0,n1] 2 hB fun b2 w2 g2 L2 o2 q2 hB=>?_
 simp only [p3,p4]
 refine se ?_
 refine eb 34 #[d0,d1] 3 hB fun b3 w3 g3 L3 o3 q3 hB=>?_
 have ak:=L2.ne o3
 simp only [p3,p4]
 refine se ?_
 refine ea 36 #[(.bool false),(.slice none 0 0),(.bool false),(.slice none 0 0)] 4 hB fun b4 w4 g4 L4 o4 q4 hB=>?_
 replace L2:=L2.gr g3
 have aD:=L2.ne o4
 have aE:=L3.ne o4
 simp only [p3,p4]
 refine sq_nil ?_
 refine k1 _ _ ?_
 try clear k1 K1
 refine wp_seq_k (fun K5 k5=>?_)
 refine wp_seq_k (fun K6 k6=>?_)
 refine rg [0,1,2] ?_
 replace L3:=L3.gr g4
 refine sw 6 (.agg #[d0,d1]) rfl (rl 34 0 [d0,d1] L3) ?_
 refine se ?_
 have a6:=g2.kp.trans (g3.kp.trans g4.kp)
 replace hd:=hd.kp a6
 refine ec 7 (sign_neg hd (by omega)) ?_
 rintro e7 w7 ⟨rfl,g7⟩
 refine ⟨_,rfl,?_⟩
 replace hB:=hB.trans g7
 simp only [p3,p4]
 refine sv 8 (.bool true) ?_
 refine sq_nil ?_
 refine k6 _ _ ?_
 try clear k6 K6
 refine wp_cond_true rfl ?_
 have ab:=Gr.drew w7
 replace hB:=hB.trans ab
 replace L2:=L2.gr (g4.trans (g7.trans ab))
 replace L3:=L3.gr (g7.trans ab)
 refine wp_region_ort (fun _=>True) [([4],(fun w'=>Lc w' b2 #[n0,n1] 34)),([5],(fun w'=>Lc w' b3 #[d0,d1] 34))] [(true,0),(true,2),(false,1),(false,3),(false,4),(false,5)] (by kernel_rfl) (by kernel_rfl) (by kernel_rfl) (by decide) (fun _ _ _ _ _ h=>h) trivial ⟨fun _=>L2,fun _=>L3,trivial⟩ ?_
 refine tw 9 (.agg #[n0,n1]) rfl (fun w' hS=>(rl 34 0 [n0,n1] (hS.2.1 (by kernel_rfl)))) ?_
 refine tw 11 (.agg #[d0,d1]) rfl (fun w' hS=>(rl 34 0 [d0,d1] (hS.2.2.1 (by kernel_rfl)))) ?_
 refine te ?_
 have aN:=g2.kp.trans (g3.kp.trans (g4.kp.trans (g7.kp.trans ab.kp)))
 replace hn:=hn.kp aN
 refine ec 10 (neg_i hn) ?_
 rintro e12 a8 ⟨⟨af,ac,rfl,ai⟩,aI⟩
 refine ⟨_,rfl,?_⟩
 replace hB:=hB.trans aI
 replace L2:=L2.gr aI
 replace L3:=L3.gr aI
 refine ⟨trivial,⟨fun _=>L2,fun _=>L3,trivial⟩,?_⟩
 simp only [p3,p4]
 refine te ?_
 have aM:=g7.kp.trans (ab.kp.trans aI.kp)
 replace hd:=hd.kp aM
 refine ec 12 (neg_i hd) ?_
 rintro bd bc ⟨⟨ad,ae,rfl,aj⟩,aK⟩
 refine ⟨_,rfl,?_⟩
 replace hB:=hB.trans aK
 replace L2:=L2.gr aK
 replace L3:=L3.gr aK
 refine ⟨trivial,⟨fun _=>L2,fun _=>L3,trivial⟩,?_⟩
 simp only [p3,p4]
 refine te ?_
 refine es 34 0 (.agg #[af,ac]) [af,ac] #[af,ac] L2 hB q2 ⟨ai.one0,ai.one1,trivial⟩ fun a7 aL aF L2 hB=>?_
 replace L3:=aL.lc L3 (Ne.symm ak)
 refine ⟨trivial,⟨cameT (by kernel_rfl),fun _=>L3,trivial⟩,?_⟩
 refine te ?_
 refine es 34 0 (.agg #[ad,ae]) [ad,ae] #[ad,ae] L3 hB q3 ⟨aj.one0,aj.one1,trivial⟩ fun bk aH az L3 hB=>?_
 refine ⟨trivial,⟨cameT (by kernel_rfl),cameT (by kernel_rfl),trivial⟩,?_⟩
 refine ort_nil ?_
 refine k5 _ _ ?_
 try clear k5 K5
 refine wp_seq_k (fun aZ aU=>?_)
 refine rg [0,1,2,3,4] ?_
 replace L2:=aH.lc L2 ak
 refine sw 13 (.agg #[af,ac]) rfl (rl 34 0 [af,ac] L2) ?_
 refine sw 14 (.agg #[ad,ae]) rfl (rl 34 0 [ad,ae] L3) ?_
 refine se ?_
 have aS:=aK.kp.trans (aF.trans az)
 replace ai:=ai.kp aS
 have aP:=aF.trans az
 replace aj:=aj.kp aP
 refine ec 15 (gcd_i ai aj (by omega)) ?_
 rintro e22 bg ⟨⟨ay,aw,rfl,aB⟩,aA⟩
 refine ⟨_,rfl,?_⟩
 replace hB:=hB.trans aA
 simp only [p3,p4]
 refine se ?_
 refine ea 34 #[(.bool false),(.slice none 0 0)] 5 hB fun aY bh aJ ah aR aX hB=>?_
 replace L2:=L2.gr aA
 have au:=L2.ne aR
 replace L3:=L3.gr aA
 have ar:=L3.ne aR
 replace L4:=(aH.lc (aL.lc (L4.gr (g7.trans (ab.trans (aI.trans aK)))) (Ne.symm aD)) (Ne.symm aE)).gr aA
 have al:=L4.ne aR
 simp only [p3,p4]
 refine se ?_
 refine es 34 0 (.agg #[ay,aw]) [ay,aw] #[ay,aw] ah hB aX ⟨aB.one0,aB.one1,trivial⟩ fun a5 av aC ah hB=>?_
 refine sq_nil ?_
 refine aU _ _ ?_
 try clear aU aZ
 refine wp_seq_k (fun a0 aV=>?_)
 refine wp_seq_k (fun a3 aT=>?_)
 have aa:=Gr.drew a5
 replace hB:=hB.trans aa
 replace ah:=ah.gr aa
 refine wp_region_ord (fun w'=>Lc w' aY #[ay,aw] 34) [(true,0),(false,1),(false,2),(true,3)] (by kernel_rfl) (by kernel_rfl) (by kernel_rfl) (by decide) (fun _ _ _ _ _ h=>h) ah ?_
 refine ow 16 (.agg #[ay,aw]) rfl (fun w' hS=>(rl 34 0 [ay,aw] hS)) ?_
 refine oe ?_
 refine ec 17 (one_i _) ?_
 rintro ba bj ⟨⟨a9,bf,rfl,a2⟩,aq⟩
 refine ⟨_,rfl,?_⟩
 replace hB:=hB.trans aq
 replace ah:=ah.gr aq
 refine ⟨ah,?_⟩
 simp only [p3,p4]
 refine oe ?_
 have aO:=aJ.kp.trans (aC.trans (aa.kp.trans aq.kp))
 replace aB:=aB.kp aO
 refine ec 18 (compare_i aB a2 (by omega) (by omega)) ?_
 rintro bm bi ⟨rfl,ax⟩
 refine ⟨_,rfl,?_⟩
 replace hB:=hB.trans ax
 replace ah:=ah.gr ax
 refine ⟨ah,?_⟩
 simp only [p3,p4]
 refine ow 19 (.bool false) rfl (fun w' hS=>(RunV.bool (x:=(sgn ((Int.gcd ((-N)) ((-D)):Int) - 1) !=(0:Int))) (rvk (by kernel_rfl)) hg)) ?_
 refine ord_nil ?_
 refine aT _ _ ?_
 try clear aT a3
 refine wp_cond_false rfl ?_
 refine wp_skip ?_
 refine aV _ _ ?_
 try clear aV a0
 refine wp_seq_k (fun a4 aW=>?_)
 refine rg [0,1,2,3] ?_
 replace L2:=(av.lc (L2.gr aJ) au).gr (aa.trans (aq.trans ax))
 refine sw 34 (.agg #[af,ac]) rfl (rl 34 0 [af,ac] L2) ?_
 replace L3:=(av.lc (L3.gr aJ) ar).gr (aa.trans (aq.trans ax))
 refine sw 35 (.agg #[ad,ae]) rfl (rl 34 0 [ad,ae] L3) ?_
 refine sv 36 (.agg #[af,ac,ad,ae]) ?_
 refine se ?_
 replace L4:=(av.lc (L4.gr aJ) al).gr (aa.trans (aq.trans ax))
 refine es 36 0 (.agg #[af,ac,ad,ae]) [af,ac,ad,ae] #[af,ac,ad,ae] L4 hB q4 ⟨ai.one0,ai.one1,aj.one0,aj.one1,trivial⟩ fun bb a1 aQ L4 hB=>?_
 refine sq_nil ?_
 refine aW _ _ ?_
 try clear aW a4
 refine wp_ret ?_
 refine bodyPost_ret (v:=(.agg #[af,ac,ad,ae])) (ret_cell _ _ _ rfl rfl L4 (by kernel_rfl)) rfl ⟨?_,hB⟩
 have aG:=aA.kp.trans (aJ.kp.trans (aC.trans (aa.kp.trans (aq.kp.trans (ax.kp.trans aQ)))))
 replace ai:=ai.kp aG
 replace aj:=aj.kp aG
 exact ⟨_,_,_,_,rfl,ai,aj⟩

set_option maxRecDepth 100000 in
set_option maxHeartbeats 1000000 in
theorem reduced_ng {k:Nat} {n0 n1 d0 d1:Value} {N D:Int} {w:World} (hn:IsInt w k n0 n1 N) (hd:IsInt w k d0 d1 D) (_hk:k+k+k+k+k+k+66≤1000000) (_h0:D<0) (hg:(sgn ((Int.gcd ((-N)) ((-D)):Int) - 1) !=0)=true) (hxn:0<(Int.gcd ((-N)) ((-D)):Int)∧(Int.gcd ((-N)) ((-D)):Int)∣(-N)) (_hxd:0<(Int.gcd ((-N)) ((-D)):Int)∧(Int.gcd ((-N)) ((-D)):Int)∣(-D)):
    Calls Tryz.prog 95 #[(.agg #[n0,n1]),(.agg #[d0,d1])] w fun e w'=>(∃ x y x2 y2,e=.returned (.agg #[x,y,x2,y2])∧IsInt w' k x y ((-N)/(Int.gcd ((-N)) ((-D)):Int))∧IsInt w' k x2 y2 ((-D)/(Int.gcd ((-N)) ((-D)):Int)))∧Gr w w':=by
 go_enter Tryz.func95,Tryz.ntmps95
 have hB:=Gr.refl w
 refine wp_seq_k (fun K1 k1=>?_)
 refine rg [0,1,2] ?_
 refine se ?_
 refine eb 34 #[n0,n1] 2 hB fun b2 w2 g2 L2 o2 q2 hB=>?_
 simp only [p3,p4]
 refine se ?_
 refine eb 34 #[d0,d1] 3 hB fun b3 w3 g3 L3 o3 q3 hB=>?_
 have ac:=L2.ne o3
 simp only [p3,p4]
 refine se ?_
 refine ea 36 #[(.bool false),(.slice none 0 0),(.bool false),(.slice none 0 0)] 4 hB fun b4 w4 g4 L4 o4 q4 hB=>?_
 replace L2:=L2.gr g3
 have ar:=L2.ne o4
 have av:=L3.ne o4
 simp only [p3,p4]
 refine sq_nil ?_
 refine k1 _ _ ?_
 try clear k1 K1
 refine wp_seq_k (fun K5 k5=>?_)
 refine wp_seq_k (fun K6 k6=>?_)
 refine rg [0,1,2] ?_
 replace L3:=L3.gr g4
 refine sw 6 (.agg #[d0,d1]) rfl (rl 34 0 [d0,d1] L3) ?_
 refine se ?_
 have bz:=g2.kp.trans (g3.kp.trans g4.kp)
 replace hd:=hd.kp bz
 refine ec 7 (sign_neg hd (by omega)) ?_
 rintro e7 w7 ⟨rfl,g7⟩
 refine ⟨_,rfl,?_⟩
 replace hB:=hB.trans g7
 simp only [p3,p4]
 refine sv 8 (.bool true) ?_
 refine sq_nil ?_
 refine k6 _ _ ?_
 try clear k6 K6
 refine wp_cond_true rfl ?_
 have ad:=Gr.drew w7
 replace hB:=hB.trans ad
 replace L2:=L2.gr (g4.trans (g7.trans ad))
 replace L3:=L3.gr (g7.trans ad)
 refine wp_region_ort (fun _=>True) [([4],(fun w'=>Lc w' b2 #[n0,n1] 34)),([5],(fun w'=>Lc w' b3 #[d0,d1] 34))] [(true,0),(true,2),(false,1),(false,3),(false,4),(false,5)] (by kernel_rfl) (by kernel_rfl) (by kernel_rfl) (by decide) (fun _ _ _ _ _ h=>h) trivial ⟨fun _=>L2,fun _=>L3,trivial⟩ ?_
 refine tw 9 (.agg #[n0,n1]) rfl (fun w' hS=>(rl 34 0 [n0,n1] (hS.2.1 (by kernel_rfl)))) ?_
 refine tw 11 (.agg #[d0,d1]) rfl (fun w' hS=>(rl 34 0 [d0,d1] (hS.2.2.1 (by kernel_rfl)))) ?_
 refine te ?_
 have a4:=g2.kp.trans (g3.kp.trans (g4.kp.trans (g7.kp.trans ad.kp)))
 replace hn:=hn.kp a4
 refine ec 10 (neg_i hn) ?_
 rintro e12 bG ⟨⟨aH,az,rfl,aw⟩,aY⟩
 refine ⟨_,rfl,?_⟩
 replace hB:=hB.trans aY
 replace L2:=L2.gr aY
 replace L3:=L3.gr aY
 refine ⟨trivial,⟨fun _=>L2,fun _=>L3,trivial⟩,?_⟩
 simp only [p3,p4]
 refine te ?_
 have a3:=g7.kp.trans (ad.kp.trans aY.kp)
 replace hd:=hd.kp a3
 refine ec 12 (neg_i hd) ?_
 rintro bN bL ⟨⟨aF,aG,rfl,ax⟩,a0⟩
 refine ⟨_,rfl,?_⟩
 replace hB:=hB.trans a0
 replace L2:=L2.gr a0
 replace L3:=L3.gr a0
 refine ⟨trivial,⟨fun _=>L2,fun _=>L3,trivial⟩,?_⟩
 simp only [p3,p4]
 refine te ?_
 refine es 34 0 (.agg #[aH,az]) [aH,az] #[aH,az] L2 hB q2 ⟨aw.one0,aw.one1,trivial⟩ fun bB a1 aU L2 hB=>?_
 replace L3:=a1.lc L3 (Ne.symm ac)
 refine ⟨trivial,⟨cameT (by kernel_rfl),fun _=>L3,trivial⟩,?_⟩
 refine te ?_
 refine es 34 0 (.agg #[aF,aG]) [aF,aG] #[aF,aG] L3 hB q3 ⟨ax.one0,ax.one1,trivial⟩ fun bT aW aP L3 hB=>?_
 refine ⟨trivial,⟨cameT (by kernel_rfl),cameT (by kernel_rfl),trivial⟩,?_⟩
 refine ort_nil ?_
 refine k5 _ _ ?_
 try clear k5 K5
 refine wp_seq_k (fun bo bg=>?_)
 refine rg [0,1,2,3,4] ?_
 replace L2:=aW.lc L2 ac
 refine sw 13 (.agg #[aH,az]) rfl (rl 34 0 [aH,az] L2) ?_
 refine sw 14 (.agg #[aF,aG]) rfl (rl 34 0 [aF,aG] L3) ?_
 refine se ?_
 have bc:=a0.kp.trans (aU.trans aP)
 replace aw:=aw.kp bc
 have a9:=aU.trans aP
 replace ax:=ax.kp a9
 refine ec 15 (gcd_i aw ax (by omega)) ?_
 rintro e22 bP ⟨⟨aq,al,rfl,aj⟩,aM⟩
 refine ⟨_,rfl,?_⟩
 replace hB:=hB.trans aM
 simp only [p3,p4]
 refine se ?_
 refine ea 34 #[(.bool false),(.slice none 0 0)] 5 hB fun bm bQ aN ab ba bk hB=>?_
 replace L2:=L2.gr aM
 have ak:=L2.ne ba
 replace L3:=L3.gr aM
 have aI:=L3.ne ba
 replace L4:=(aW.lc (a1.lc (L4.gr (g7.trans (ad.trans (aY.trans a0)))) (Ne.symm ar)) (Ne.symm av)).gr aM
 have aC:=L4.ne ba
 simp only [p3,p4]
 refine se ?_
 refine es 34 0 (.agg #[aq,al]) [aq,al] #[aq,al] ab hB bk ⟨aj.one0,aj.one1,trivial⟩ fun bx aL aE ab hB=>?_
 refine sq_nil ?_
 refine bg _ _ ?_
 try clear bg bo
 refine wp_seq_k (fun bq bh=>?_)
 refine wp_seq_k (fun bu bd=>?_)
 have aa:=Gr.drew bx
 replace hB:=hB.trans aa
 replace ab:=ab.gr aa
 refine wp_region_ord (fun w'=>Lc w' bm #[aq,al] 34) [(true,0),(false,1),(false,2),(true,3)] (by kernel_rfl) (by kernel_rfl) (by kernel_rfl) (by decide) (fun _ _ _ _ _ h=>h) ab ?_
 refine ow 16 (.agg #[aq,al]) rfl (fun w' hS=>(rl 34 0 [aq,al] hS)) ?_
 refine oe ?_
 refine ec 17 (one_i _) ?_
 rintro bJ bS ⟨⟨bH,bO,rfl,bt⟩,au⟩
 refine ⟨_,rfl,?_⟩
 replace hB:=hB.trans au
 replace ab:=ab.gr au
 refine ⟨ab,?_⟩
 simp only [p3,p4]
 refine oe ?_
 have a5:=aN.kp.trans (aE.trans (aa.kp.trans au.kp))
 replace aj:=aj.kp a5
 refine ec 18 (compare_i aj bt (by omega) (by omega)) ?_
 rintro bU bR ⟨rfl,ay⟩
 refine ⟨_,rfl,?_⟩
 replace hB:=hB.trans ay
 replace ab:=ab.gr ay
 refine ⟨ab,?_⟩
 simp only [p3,p4]
 refine ow 19 (.bool true) rfl (fun w' hS=>(RunV.bool (x:=(sgn ((Int.gcd ((-N)) ((-D)):Int) - 1) !=(0:Int))) (rvk (by kernel_rfl)) hg)) ?_
 refine ord_nil ?_
 refine bd _ _ ?_
 try clear bd bu
 refine wp_cond_true rfl ?_
 refine wp_seq_k (fun bv bi=>?_)
 refine rg [0,1,2,3,4,5,6,7] ?_
 replace L2:=(aL.lc (L2.gr aN) ak).gr (aa.trans (au.trans ay))
 refine sw 21 (.agg #[aH,az]) rfl (rl 34 0 [aH,az] L2) ?_
 refine sw 22 (.agg #[aq,al]) rfl (rl 34 0 [aq,al] ab) ?_
 refine se ?_
 have a8:=aM.kp.trans (aN.kp.trans (aE.trans (aa.kp.trans (au.kp.trans ay.kp))))
 replace aw:=aw.kp a8
 replace aj:=aj.kp ay.kp
 refine ec 23 (divmod_i aw aj hxn.1 (by omega)) ?_
 rintro bC bK ⟨⟨ae,af,aO,aX,rfl,aB,bj⟩,aJ⟩
 refine ⟨_,rfl,?_⟩
 replace hB:=hB.trans aJ
 simp only [p3,p4]
 refine sv 20 (.tuple #[(.agg #[ae,af]),(.agg #[aO,aX]),(.int .i64 0)]) ?_
 refine sv 24 (.agg #[ae,af]) ?_
 refine sv 25 (.agg #[aO,aX]) ?_
 refine sv 26 (.int .i64 0) ?_
 refine se ?_
 replace L2:=L2.gr aJ
 refine es 34 0 (.agg #[ae,af]) [ae,af] #[ae,af] L2 hB q2 ⟨aB.one0,aB.one1,trivial⟩ fun bA aD aA L2 hB=>?_
 refine sq_nil ?_
 refine bi _ _ ?_
 try clear bi bv
 refine rg [0,1,2,3,4,5,6,7] ?_
 replace L3:=aD.lc ((aL.lc (L3.gr aN) aI).gr (aa.trans (au.trans (ay.trans aJ)))) (Ne.symm ac)
 refine sw 28 (.agg #[aF,aG]) rfl (rl 34 0 [aF,aG] L3) ?_
 replace ab:=aD.lc (ab.gr aJ) (Ne.symm ak)
 refine sw 29 (.agg #[aq,al]) rfl (rl 34 0 [aq,al] ab) ?_
 refine se ?_
 have a7:=aM.kp.trans (aN.kp.trans (aE.trans (aa.kp.trans (au.kp.trans (ay.kp.trans (aJ.kp.trans aA))))))
 replace ax:=ax.kp a7
 have a6:=aJ.kp.trans aA
 replace aj:=aj.kp a6
 refine ec 30 (divmod_i ax aj hxn.1 (by omega)) ?_
 rintro bD bF ⟨⟨ah,ai,aV,aZ,rfl,aK,bp⟩,aT⟩
 refine ⟨_,rfl,?_⟩
 replace hB:=hB.trans aT
 simp only [p3,p4]
 refine sv 27 (.tuple #[(.agg #[ah,ai]),(.agg #[aV,aZ]),(.int .i64 0)]) ?_
 refine sv 31 (.agg #[ah,ai]) ?_
 refine sv 32 (.agg #[aV,aZ]) ?_
 refine sv 33 (.int .i64 0) ?_
 refine se ?_
 replace L3:=L3.gr aT
 refine es 34 0 (.agg #[ah,ai]) [ah,ai] #[ah,ai] L3 hB q3 ⟨aK.one0,aK.one1,trivial⟩ fun bE aR aQ L3 hB=>?_
 refine sq_nil ?_
 refine bh _ _ ?_
 try clear bh bq
 refine wp_seq_k (fun bw bf=>?_)
 refine rg [0,1,2,3] ?_
 replace L2:=aR.lc (L2.gr aT) ac
 refine sw 34 (.agg #[ae,af]) rfl (rl 34 0 [ae,af] L2) ?_
 refine sw 35 (.agg #[ah,ai]) rfl (rl 34 0 [ah,ai] L3) ?_
 refine sv 36 (.agg #[ae,af,ah,ai]) ?_
 refine se ?_
 replace L4:=aR.lc ((aD.lc ((aL.lc (L4.gr aN) aC).gr (aa.trans (au.trans (ay.trans aJ)))) (Ne.symm ar)).gr aT) (Ne.symm av)
 refine es 36 0 (.agg #[ae,af,ah,ai]) [ae,af,ah,ai] #[ae,af,ah,ai] L4 hB q4 ⟨aB.one0,aB.one1,aK.one0,aK.one1,trivial⟩ fun bM bn aS L4 hB=>?_
 refine sq_nil ?_
 refine bf _ _ ?_
 try clear bf bw
 refine wp_ret ?_
 refine bodyPost_ret (v:=(.agg #[ae,af,ah,ai])) (ret_cell _ _ _ rfl rfl L4 (by kernel_rfl)) rfl ⟨?_,hB⟩
 have a2:=aA.trans (aT.kp.trans (aQ.trans aS))
 replace aB:=aB.kp a2
 have bb:=aQ.trans aS
 replace aK:=aK.kp bb
 exact ⟨_,_,_,_,rfl,aB,aK⟩

end Go.Proofs.YtaldbfflkpgfoaaGreatDoor
