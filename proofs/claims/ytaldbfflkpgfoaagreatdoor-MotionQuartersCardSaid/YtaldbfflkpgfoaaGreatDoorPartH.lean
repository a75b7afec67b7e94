/- Joined of: Gen107, RowMotionQuarters. -/
import Derived.Test.YtaldbfflkpgfoaaGreatDoorPartG
import Derived.Test.YtaldbfflkpgfoaaGreatDoorCards
import Derived.Test.YtaldbfflkpgfoaaGreatDoorTie
namespace Go.Proofs.YtaldbfflkpgfoaaGreatDoor
open Go.RowKit

set_option maxRecDepth 100000 in
set_option maxHeartbeats 1000000 in
theorem before7 (ah ae ai af aa ad ab ac:Int) (w:World):
    Calls Tryz.prog 51 #[(.agg #[(.int .i64 (ah)),(.int .i64 (ae)),(.int .i64 (ai)),(.int .i64 (af))]),(.agg #[(.int .i64 (aa)),(.int .i64 (ad)),(.int .i64 (ab)),(.int .i64 (ac))])] w fun e w'=>e=.returned (.bool (yp6 ah ae ai af aa ad ab ac))∧Gr w w':=by
 go_enter Tryz.func51,Tryz.ntmps51
 have hB:=Gr.refl w
 refine wp_seq_k (fun K1 k1=>?_)
 refine rg [0,1,2] ?_
 refine se ?_
 refine eb 22 #[(.int .i64 (ah)),(.int .i64 (ae)),(.int .i64 (ai)),(.int .i64 (af))] 2 hB fun b2 w2 g2 L2 o2 q2 hB=>?_
 simp only [p3,p4]
 refine se ?_
 refine eb 22 #[(.int .i64 (aa)),(.int .i64 (ad)),(.int .i64 (ab)),(.int .i64 (ac))] 3 hB fun b3 w3 g3 L3 o3 q3 hB=>?_
 simp only [p3,p4]
 refine sv 4 (.bool false) ?_
 refine za0 ?_
 refine k1 _ _ ?_
 try clear k1 K1
 refine wp_seq_k (fun K4 k4=>?_)
 refine wp_seq_k (fun K5 k5=>?_)
 refine rg [0] ?_
 refine sv 5 (.int .i64 0) ?_
 refine za0 ?_
 refine k5 _ _ ?_
 try clear k5 K5
 refine wp_block ?_
 refine wp_loop_rounds 6 ?_
 show Code.wp _ _ _ _ _
 refine wp_seq_k (fun K6 k6=>?_)
 refine wp_seq_k (fun K7 k7=>?_)
 refine rg [0,1] ?_
 refine sv 6 (.int .i64 0) ?_
 refine sv 7 (.bool true) ?_
 refine za0 ?_
 refine k7 _ _ ?_
 try clear k7 K7
 refine wp_cond_true rfl ?_
 refine wp_skip ?_
 refine k6 _ _ ?_
 try clear k6 K6
 refine wp_seq_k (fun K8 k8=>?_)
 refine wp_block ?_
 refine wp_seq_k (fun K9 k9=>?_)
 have az:=Gr.drew w3
 replace hB:=hB.trans az
 replace L2:=L2.gr (g3.trans az)
 replace L3:=L3.gr az
 refine za2 (fun w'=>Lc w' b2 #[(.int .i64 (ah)),(.int .i64 (ae)),(.int .i64 (ai)),(.int .i64 (af))] 22∧Lc w' b3 #[(.int .i64 (aa)),(.int .i64 (ad)),(.int .i64 (ab)),(.int .i64 (ac))] 22) [(true,0),(true,1),(true,2),(true,3),(true,4),(true,5),(true,6)] (by kernel_rfl) (by kernel_rfl) (by kernel_rfl) (by decide) (fun _ _ _ _ _ h=>h) ⟨L2,L3⟩ ?_
 refine ov 10 (.int .i64 0) ?_
 refine ov 11 (.pointer (some ⟨b2,0,none⟩)) ?_
 refine ow 12 (.int .i64 (ah)) rfl (fun w' hS=>(rk 3 0 hS.1)) ?_
 refine ov 13 (.int .i64 0) ?_
 refine ov 14 (.pointer (some ⟨b3,0,none⟩)) ?_
 refine ow 15 (.int .i64 (aa)) rfl (fun w' hS=>(rk 3 0 hS.2)) ?_
 refine ov 16 (.bool ((ah !=aa))) ?_
 refine zb1 ?_
 refine k9 _ _ ?_
 try clear k9 K9
 refine wp_cond_split (t:=(ah !=aa)) rfl (fun aj=>?_) (fun aj=>?_)
 ·refine wp_seq_k (fun aZ aL=>?_)
  have au:=Gr.drew (w3.drew)
  replace hB:=hB.trans au
  replace L2:=L2.gr au
  replace L3:=L3.gr au
  refine za2 (fun w'=>Lc w' b2 #[(.int .i64 (ah)),(.int .i64 (ae)),(.int .i64 (ai)),(.int .i64 (af))] 22∧Lc w' b3 #[(.int .i64 (aa)),(.int .i64 (ad)),(.int .i64 (ab)),(.int .i64 (ac))] 22) [(true,0),(true,1),(true,2),(true,3),(true,4),(true,5),(true,6),(true,7)] (by kernel_rfl) (by kernel_rfl) (by kernel_rfl) (by decide) (fun _ _ _ _ _ h=>h) ⟨L2,L3⟩ ?_
  refine ov 17 (.int .i64 0) ?_
  refine ov 18 (.pointer (some ⟨b2,0,none⟩)) ?_
  refine ow 19 (.int .i64 (ah)) rfl (fun w' hS=>(rk 3 0 hS.1)) ?_
  refine ov 20 (.int .i64 0) ?_
  refine ov 21 (.pointer (some ⟨b3,0,none⟩)) ?_
  refine ow 22 (.int .i64 (aa)) rfl (fun w' hS=>(rk 3 0 hS.2)) ?_
  refine ov 23 (.bool (decide (ah<aa))) ?_
  refine ov 4 (.bool (decide (ah<aa))) ?_
  refine zb1 ?_
  refine aL _ _ ?_
  try clear aL aZ
  refine wp_ret ?_
  simp only [Exit.then,Exit.inBlock]
  refine bodyPost_ret (v:=(.bool (decide (ah<aa)))) (za7 rfl rfl) rfl ⟨?_,hB⟩
  exact (by unfold yp6;rw [if_pos aj])
 ·refine wp_skip ?_
  refine k8 _ _ ?_
  try clear k8 K8
  refine rg [0,1,2] ?_
  refine sv 8 (.int .i64 0) ?_
  refine sv 9 (.int .i64 1) ?_
  refine sv 5 (.int .i64 1) ?_
  refine za0 ?_
  show Code.rounds _ _ _ _ _ _
  show Code.wp _ _ _ _ _
  refine wp_seq_k (fun aV aG=>?_)
  refine wp_seq_k (fun a7 aD=>?_)
  refine rg [0,1] ?_
  refine sv 6 (.int .i64 1) ?_
  refine sv 7 (.bool true) ?_
  refine za0 ?_
  refine aD _ _ ?_
  try clear aD a7
  refine wp_cond_true rfl ?_
  refine wp_skip ?_
  refine aG _ _ ?_
  try clear aG aV
  refine wp_seq_k (fun a1 aA=>?_)
  refine wp_block ?_
  refine wp_seq_k (fun a5 aO=>?_)
  have aw:=Gr.drew (w3.drew)
  replace hB:=hB.trans aw
  replace L2:=L2.gr aw
  replace L3:=L3.gr aw
  refine za2 (fun w'=>Lc w' b2 #[(.int .i64 (ah)),(.int .i64 (ae)),(.int .i64 (ai)),(.int .i64 (af))] 22∧Lc w' b3 #[(.int .i64 (aa)),(.int .i64 (ad)),(.int .i64 (ab)),(.int .i64 (ac))] 22) [(true,0),(true,1),(true,2),(true,3),(true,4),(true,5),(true,6)] (by kernel_rfl) (by kernel_rfl) (by kernel_rfl) (by decide) (fun _ _ _ _ _ h=>h) ⟨L2,L3⟩ ?_
  refine ov 10 (.int .i64 1) ?_
  refine ov 11 (.pointer (some ⟨b2,1,none⟩)) ?_
  refine ow 12 (.int .i64 (ae)) rfl (fun w' hS=>(rk 3 1 hS.1)) ?_
  refine ov 13 (.int .i64 1) ?_
  refine ov 14 (.pointer (some ⟨b3,1,none⟩)) ?_
  refine ow 15 (.int .i64 (ad)) rfl (fun w' hS=>(rk 3 1 hS.2)) ?_
  refine ov 16 (.bool ((ae !=ad))) ?_
  refine zb1 ?_
  refine aO _ _ ?_
  try clear aO a5
  refine wp_cond_split (t:=(ae !=ad)) rfl (fun ak=>?_) (fun ak=>?_)
  ·refine wp_seq_k (fun a3 aJ=>?_)
   have av:=Gr.drew ((w3.drew).drew)
   replace hB:=hB.trans av
   replace L2:=L2.gr av
   replace L3:=L3.gr av
   refine za2 (fun w'=>Lc w' b2 #[(.int .i64 (ah)),(.int .i64 (ae)),(.int .i64 (ai)),(.int .i64 (af))] 22∧Lc w' b3 #[(.int .i64 (aa)),(.int .i64 (ad)),(.int .i64 (ab)),(.int .i64 (ac))] 22) [(true,0),(true,1),(true,2),(true,3),(true,4),(true,5),(true,6),(true,7)] (by kernel_rfl) (by kernel_rfl) (by kernel_rfl) (by decide) (fun _ _ _ _ _ h=>h) ⟨L2,L3⟩ ?_
   refine ov 17 (.int .i64 1) ?_
   refine ov 18 (.pointer (some ⟨b2,1,none⟩)) ?_
   refine ow 19 (.int .i64 (ae)) rfl (fun w' hS=>(rk 3 1 hS.1)) ?_
   refine ov 20 (.int .i64 1) ?_
   refine ov 21 (.pointer (some ⟨b3,1,none⟩)) ?_
   refine ow 22 (.int .i64 (ad)) rfl (fun w' hS=>(rk 3 1 hS.2)) ?_
   refine ov 23 (.bool (decide (ae<ad))) ?_
   refine ov 4 (.bool (decide (ae<ad))) ?_
   refine zb1 ?_
   refine aJ _ _ ?_
   try clear aJ a3
   refine wp_ret ?_
   simp only [Exit.then,Exit.inBlock]
   refine bodyPost_ret (v:=(.bool (decide (ae<ad)))) (za7 rfl rfl) rfl ⟨?_,hB⟩
   exact (by unfold yp6;rw [if_neg (by rw [aj];decide),if_pos ak])
  ·refine wp_skip ?_
   refine aA _ _ ?_
   try clear aA a1
   refine rg [0,1,2] ?_
   refine sv 8 (.int .i64 1) ?_
   refine sv 9 (.int .i64 2) ?_
   refine sv 5 (.int .i64 2) ?_
   refine za0 ?_
   show Code.rounds _ _ _ _ _ _
   show Code.wp _ _ _ _ _
   refine wp_seq_k (fun a4 aK=>?_)
   refine wp_seq_k (fun a6 aP=>?_)
   refine rg [0,1] ?_
   refine sv 6 (.int .i64 2) ?_
   refine sv 7 (.bool true) ?_
   refine za0 ?_
   refine aP _ _ ?_
   try clear aP a6
   refine wp_cond_true rfl ?_
   refine wp_skip ?_
   refine aK _ _ ?_
   try clear aK a4
   refine wp_seq_k (fun aX aE=>?_)
   refine wp_block ?_
   refine wp_seq_k (fun a2 aM=>?_)
   have ay:=Gr.drew ((w3.drew).drew)
   replace hB:=hB.trans ay
   replace L2:=L2.gr ay
   replace L3:=L3.gr ay
   refine za2 (fun w'=>Lc w' b2 #[(.int .i64 (ah)),(.int .i64 (ae)),(.int .i64 (ai)),(.int .i64 (af))] 22∧Lc w' b3 #[(.int .i64 (aa)),(.int .i64 (ad)),(.int .i64 (ab)),(.int .i64 (ac))] 22) [(true,0),(true,1),(true,2),(true,3),(true,4),(true,5),(true,6)] (by kernel_rfl) (by kernel_rfl) (by kernel_rfl) (by decide) (fun _ _ _ _ _ h=>h) ⟨L2,L3⟩ ?_
   refine ov 10 (.int .i64 2) ?_
   refine ov 11 (.pointer (some ⟨b2,2,none⟩)) ?_
   refine ow 12 (.int .i64 (ai)) rfl (fun w' hS=>(rk 3 2 hS.1)) ?_
   refine ov 13 (.int .i64 2) ?_
   refine ov 14 (.pointer (some ⟨b3,2,none⟩)) ?_
   refine ow 15 (.int .i64 (ab)) rfl (fun w' hS=>(rk 3 2 hS.2)) ?_
   refine ov 16 (.bool ((ai !=ab))) ?_
   refine zb1 ?_
   refine aM _ _ ?_
   try clear aM a2
   refine wp_cond_split (t:=(ai !=ab)) rfl (fun al=>?_) (fun al=>?_)
   ·refine wp_seq_k (fun aT aB=>?_)
    have ar:=Gr.drew (((w3.drew).drew).drew)
    replace hB:=hB.trans ar
    replace L2:=L2.gr ar
    replace L3:=L3.gr ar
    refine za2 (fun w'=>Lc w' b2 #[(.int .i64 (ah)),(.int .i64 (ae)),(.int .i64 (ai)),(.int .i64 (af))] 22∧Lc w' b3 #[(.int .i64 (aa)),(.int .i64 (ad)),(.int .i64 (ab)),(.int .i64 (ac))] 22) [(true,0),(true,1),(true,2),(true,3),(true,4),(true,5),(true,6),(true,7)] (by kernel_rfl) (by kernel_rfl) (by kernel_rfl) (by decide) (fun _ _ _ _ _ h=>h) ⟨L2,L3⟩ ?_
    refine ov 17 (.int .i64 2) ?_
    refine ov 18 (.pointer (some ⟨b2,2,none⟩)) ?_
    refine ow 19 (.int .i64 (ai)) rfl (fun w' hS=>(rk 3 2 hS.1)) ?_
    refine ov 20 (.int .i64 2) ?_
    refine ov 21 (.pointer (some ⟨b3,2,none⟩)) ?_
    refine ow 22 (.int .i64 (ab)) rfl (fun w' hS=>(rk 3 2 hS.2)) ?_
    refine ov 23 (.bool (decide (ai<ab))) ?_
    refine ov 4 (.bool (decide (ai<ab))) ?_
    refine zb1 ?_
    refine aB _ _ ?_
    try clear aB aT
    refine wp_ret ?_
    simp only [Exit.then,Exit.inBlock]
    refine bodyPost_ret (v:=(.bool (decide (ai<ab)))) (za7 rfl rfl) rfl ⟨?_,hB⟩
    exact (by unfold yp6;rw [if_neg (by rw [aj];decide),if_neg (by rw [ak];decide),if_pos al])
   ·refine wp_skip ?_
    refine aE _ _ ?_
    try clear aE aX
    refine rg [0,1,2] ?_
    refine sv 8 (.int .i64 2) ?_
    refine sv 9 (.int .i64 3) ?_
    refine sv 5 (.int .i64 3) ?_
    refine za0 ?_
    show Code.rounds _ _ _ _ _ _
    show Code.wp _ _ _ _ _
    refine wp_seq_k (fun a9 aQ=>?_)
    refine wp_seq_k (fun a0 aR=>?_)
    refine rg [0,1] ?_
    refine sv 6 (.int .i64 3) ?_
    refine sv 7 (.bool true) ?_
    refine za0 ?_
    refine aR _ _ ?_
    try clear aR a0
    refine wp_cond_true rfl ?_
    refine wp_skip ?_
    refine aQ _ _ ?_
    try clear aQ a9
    refine wp_seq_k (fun aU aF=>?_)
    refine wp_block ?_
    refine wp_seq_k (fun a8 aI=>?_)
    have ax:=Gr.drew (((w3.drew).drew).drew)
    replace hB:=hB.trans ax
    replace L2:=L2.gr ax
    replace L3:=L3.gr ax
    refine za2 (fun w'=>Lc w' b2 #[(.int .i64 (ah)),(.int .i64 (ae)),(.int .i64 (ai)),(.int .i64 (af))] 22∧Lc w' b3 #[(.int .i64 (aa)),(.int .i64 (ad)),(.int .i64 (ab)),(.int .i64 (ac))] 22) [(true,0),(true,1),(true,2),(true,3),(true,4),(true,5),(true,6)] (by kernel_rfl) (by kernel_rfl) (by kernel_rfl) (by decide) (fun _ _ _ _ _ h=>h) ⟨L2,L3⟩ ?_
    refine ov 10 (.int .i64 3) ?_
    refine ov 11 (.pointer (some ⟨b2,3,none⟩)) ?_
    refine ow 12 (.int .i64 (af)) rfl (fun w' hS=>(rk 3 3 hS.1)) ?_
    refine ov 13 (.int .i64 3) ?_
    refine ov 14 (.pointer (some ⟨b3,3,none⟩)) ?_
    refine ow 15 (.int .i64 (ac)) rfl (fun w' hS=>(rk 3 3 hS.2)) ?_
    refine ov 16 (.bool ((af !=ac))) ?_
    refine zb1 ?_
    refine aI _ _ ?_
    try clear aI a8
    refine wp_cond_split (t:=(af !=ac)) rfl (fun ap=>?_) (fun ap=>?_)
    ·refine wp_seq_k (fun aW aH=>?_)
     have aq:=Gr.drew ((((w3.drew).drew).drew).drew)
     replace hB:=hB.trans aq
     replace L2:=L2.gr aq
     replace L3:=L3.gr aq
     refine za2 (fun w'=>Lc w' b2 #[(.int .i64 (ah)),(.int .i64 (ae)),(.int .i64 (ai)),(.int .i64 (af))] 22∧Lc w' b3 #[(.int .i64 (aa)),(.int .i64 (ad)),(.int .i64 (ab)),(.int .i64 (ac))] 22) [(true,0),(true,1),(true,2),(true,3),(true,4),(true,5),(true,6),(true,7)] (by kernel_rfl) (by kernel_rfl) (by kernel_rfl) (by decide) (fun _ _ _ _ _ h=>h) ⟨L2,L3⟩ ?_
     refine ov 17 (.int .i64 3) ?_
     refine ov 18 (.pointer (some ⟨b2,3,none⟩)) ?_
     refine ow 19 (.int .i64 (af)) rfl (fun w' hS=>(rk 3 3 hS.1)) ?_
     refine ov 20 (.int .i64 3) ?_
     refine ov 21 (.pointer (some ⟨b3,3,none⟩)) ?_
     refine ow 22 (.int .i64 (ac)) rfl (fun w' hS=>(rk 3 3 hS.2)) ?_
     refine ov 23 (.bool (decide (af<ac))) ?_
     refine ov 4 (.bool (decide (af<ac))) ?_
     refine zb1 ?_
     refine aH _ _ ?_
     try clear aH aW
     refine wp_ret ?_
     simp only [Exit.then,Exit.inBlock]
     refine bodyPost_ret (v:=(.bool (decide (af<ac)))) (za7 rfl rfl) rfl ⟨?_,hB⟩
     exact (by unfold yp6;rw [if_neg (by rw [aj];decide),if_neg (by rw [ak];decide),if_neg (by rw [al];decide),if_pos ap])
    ·refine wp_skip ?_
     refine aF _ _ ?_
     try clear aF aU
     refine rg [0,1,2] ?_
     refine sv 8 (.int .i64 3) ?_
     refine sv 9 (.int .i64 4) ?_
     refine sv 5 (.int .i64 4) ?_
     refine za0 ?_
     show Code.rounds _ _ _ _ _ _
     show Code.wp _ _ _ _ _
     refine wp_seq_k (fun ba bb=>?_)
     refine wp_seq_k (fun aY aN=>?_)
     refine rg [0,1] ?_
     refine sv 6 (.int .i64 4) ?_
     refine sv 7 (.bool false) ?_
     refine za0 ?_
     refine aN _ _ ?_
     try clear aN aY
     refine wp_cond_false rfl ?_
     refine wp_exit ?_
     simp only [Exit.then,Exit.inBlock,↓reduceIte]
     refine k4 _ _ ?_
     try clear k4 K4
     refine wp_seq_k (fun aS aC=>?_)
     refine rg [0] ?_
     refine sv 4 (.bool false) ?_
     refine za0 ?_
     refine aC _ _ ?_
     try clear aC aS
     refine wp_ret ?_
     refine bodyPost_ret (v:=(.bool false)) (za7 rfl rfl) rfl ⟨?_,hB⟩
     exact (by unfold yp6;rw [if_neg (by rw [aj];decide),if_neg (by rw [ak];decide),if_neg (by rw [al];decide),if_neg (by rw [ap];decide)])

set_option maxRecDepth 100000 in
set_option maxHeartbeats 16000000 in
theorem mquart_q (ii kk:Int) (_jii:0≤ii∧ii≤255) (_jkk:0≤kk∧kk≤255) (w:World) (ht:Tab w) (hm:Mx w):
    Calls Tryz.prog 10 #[(.int .u8 (ii)),(.int .u8 (kk))] w fun e w'=>e=.returned (.bool true)∧Gr w w':=by
 obtain ⟨ni,hni⟩:∃ n:Nat,ii % 24=(n:Int):=⟨(ii % 24).toNat,by omega⟩
 obtain ⟨nk,hnk⟩:∃ n:Nat,kk % 24=(n:Int):=⟨(kk % 24).toNat,by omega⟩
 go_enter Tryz.func10,Tryz.ntmps10
 have hB:=Gr.refl w
 refine wp_seq_k (fun K1 k1=>?_)
 refine rg [0] ?_
 refine sv 4 (.bool false) ?_
 refine za0 ?_
 refine k1 _ _ ?_
 try clear k1 K1
 refine wp_seq_k (fun K2 k2=>?_)
 refine wp_seq_k (fun K3 k3=>?_)
 refine rg [0,1] ?_
 refine se ?_
 refine ec 15 (known7 _ (ht.gr hB) (hm.gr hB)) ?_
 rintro e4 w4 ⟨rfl,g4⟩
 refine ⟨_,rfl,?_⟩
 replace hB:=hB.trans g4
 simp only [p3,p4]
 refine sv 16 (.bool false) ?_
 refine za0 ?_
 refine k3 _ _ ?_
 try clear k3 K3
 refine wp_cond_false rfl ?_
 refine wp_skip ?_
 refine k2 _ _ ?_
 try clear k2 K2
 refine wp_seq_k (fun K5 k5=>?_)
 refine rg [0,1] ?_
 refine se ?_
 refine ec 17 (zP9 _ (hm.gr hB)) ?_
 rintro e6 w6 ⟨⟨v6,rfl,hs⟩,g6⟩
 refine ⟨_,rfl,?_⟩
 replace hB:=hB.trans g6
 simp only [p3,p4]
 refine sv 5 v6 ?_
 refine za0 ?_
 refine k5 _ _ ?_
 try clear k5 K5
 refine wp_seq_k (fun K7 k7=>?_)
 refine wp_seq_k (fun K8 k8=>?_)
 refine rg [0,1,2] ?_
 refine sv 18 v6 ?_
 refine sw 19 (.int .i64 (((quarters).length:Int))) rfl (rv_len (e:=22) hs _ _ rfl rfl (by kernel_rfl)) ?_
 have fJ:((((quarters).length:Int) !=(24:Int)))=false:=(by rw [zb2];rfl)
 refine sw 20 (.bool false) rfl (RunV.bool (x:=(((quarters).length:Int) !=(24:Int))) (rvk (by kernel_rfl)) fJ) ?_
 refine za0 ?_
 refine k8 _ _ ?_
 try clear k8 K8
 refine wp_cond_false rfl ?_
 refine wp_skip ?_
 refine k7 _ _ ?_
 try clear k7 K7
 refine wp_seq_k (fun fC d4=>?_)
 refine wp_seq_k (fun fk eC=>?_)
 refine rg [0] ?_
 refine sv 6 (.int .i64 0) ?_
 refine za0 ?_
 refine eC _ _ ?_
 try clear eC fk
 refine wp_block ?_
 refine zg2 (a:=⟨List.toArray ?l12,[]⟩) (fun n a w'=>∃ (nn:Nat) (ab:Nat→Value),24 - nn=n∧a=⟨[(.int .u8 (ii)),(.int .u8 (kk)),undef,undef,(ab 4),v6,(.int .i64 ((nn:Int))),(ab 7),(ab 8),(ab 9),(ab 10),(ab 11),undef,undef,undef,(ab 15),.bool false,(ab 17),(ab 18),(ab 19),.bool false,(ab 21),(ab 22),(ab 23),(ab 24),(ab 25),(ab 26),(ab 27),(ab 28),(ab 29),(ab 30),(ab 31),(ab 32),(ab 33),(ab 34),(ab 35),(ab 36),(ab 37),(ab 38),(ab 39),(ab 40),(ab 41),(ab 42),(ab 43),(ab 44),(ab 45),(ab 46),(ab 47),(ab 48),(ab 49),(ab 50),(ab 51),(ab 52),(ab 53),(ab 54),(ab 55),(ab 56),(ab 57),(ab 58),(ab 59),(ab 60),(ab 61),(ab 62),(ab 63),(ab 64),(ab 65),(ab 66),(ab 67),(ab 68),(ab 69),(ab 70),(ab 71),(ab 72),(ab 73),(ab 74),(ab 75),(ab 76),(ab 77),(ab 78),(ab 79),(ab 80),(ab 81),(ab 82),(ab 83),(ab 84),(ab 85),(ab 86),(ab 87),undef,undef,undef,undef,undef,undef,undef,undef,undef,undef,undef,undef,undef,undef,undef,undef,undef,undef,undef,undef,undef,undef,undef,undef,undef,undef,undef,undef,undef,undef,undef,undef,undef,undef,undef,undef,undef].toArray,[]⟩∧nn≤24∧Sl EQ4 22 4 w' v6 quarters∧Gr w w') (24 - 0) ?_ ?_
 ·exact ⟨0,(fun i=>List.getD ?l12 i undef),rfl,rfl,(by omega),hs,hB⟩
 rintro gn a12 dY ⟨nn,ab,rfl,rfl,hnn,hs,hB⟩ gK eE
 refine wp_seq_k (fun e3 ee=>?_)
 refine wp_seq_k (fun e7 eG=>?_)
 refine rg [0,1] ?_
 refine sv 21 (.int .i64 ((nn:Int))) ?_
 refine sv 22 (.bool (decide ((nn:Int)<(24:Int)))) ?_
 refine za0 ?_
 refine eG _ _ ?_
 try clear eG e7
 refine wp_cond_split (t:=decide ((nn:Int)<(24:Int))) rfl (fun cP=>?_) (fun cP=>?_)
 ·have hlt:nn<24:=by have:=of_decide_eq_true cP;omega
  have bT:=q_b (i:=0) (j:=0) hlt (by omega) (by omega)
  have bX:=q_b (i:=0) (j:=1) hlt (by omega) (by omega)
  have bS:=q_b (i:=0) (j:=2) hlt (by omega) (by omega)
  have bY:=q_b (i:=1) (j:=0) hlt (by omega) (by omega)
  have bR:=q_b (i:=1) (j:=1) hlt (by omega) (by omega)
  have bW:=q_b (i:=1) (j:=2) hlt (by omega) (by omega)
  have bQ:=q_b (i:=2) (j:=0) hlt (by omega) (by omega)
  have bU:=q_b (i:=2) (j:=1) hlt (by omega) (by omega)
  have b5:=q_b (i:=2) (j:=2) hlt (by omega) (by omega)
  have dT:=zk0 bT.1 bT.2
  have ef:=zk0 bX.1 bX.2
  have eL:=zk0 bS.1 bS.2
  have ey:=zk0 bY.1 bY.2
  have em:=zk0 bR.1 bR.2
  have eh:=zk0 bW.1 bW.2
  have dR:=zk0 bQ.1 bQ.2
  have d8:=zk0 bU.1 bU.2
  have ek:=zk0 b5.1 b5.2
  refine wp_skip ?_
  refine ee _ _ ?_
  try clear ee e3
  refine wp_seq_k (fun ep c7=>?_)
  refine wp_block ?_
  refine wp_seq_k (fun gb et=>?_)
  obtain ⟨_,_,rfl,aK⟩:=hs.get (by decide) (getD_some (d:=((0,0,0,0):Int × Int × Int × Int)) (i:=nn) (xs:=quarters) (by rw [zb2];omega))
  have dh:=Below.size hB
  have cc:=Gr.drew dY
  replace hB:=hB.trans cc
  replace aK:=aK.gr cc
  refine zj7 (fun w'=>AtV w' v6 (nn*4) [(.int .i64 (((quarters).getD nn (0,0,0,0)).1)),(.int .i64 (((quarters).getD nn (0,0,0,0)).2.1)),(.int .i64 (((quarters).getD nn (0,0,0,0)).2.2.1)),(.int .i64 (((quarters).getD nn (0,0,0,0)).2.2.2))]) [(true,0),(true,1),(true,2),(true,3),(false,4),(true,5),(false,6),(true,7),(true,8),(true,9)] [⟨10,7,41,#[.bool false,.slice none 0 0,.bool false,.slice none 0 0,.bool false,.slice none 0 0,.bool false,.slice none 0 0,.bool false,.slice none 0 0,.bool false,.slice none 0 0,.bool false,.slice none 0 0,.bool false,.slice none 0 0,.bool false,.slice none 0 0,.bool false,.slice none 0 0,.bool false,.slice none 0 0,.bool false,.slice none 0 0,.bool false,.slice none 0 0,.bool false,.slice none 0 0,.bool false,.slice none 0 0,.bool false,.slice none 0 0,.bool false,.slice none 0 0,.bool false,.slice none 0 0,.bool false,.slice none 0 0,.bool false,.slice none 0 0,.bool false,.slice none 0 0,.bool false,.slice none 0 0,.bool false,.slice none 0 0,.bool false,.slice none 0 0]⟩] [(false,11),(true,12)] (by kernel_rfl) (by kernel_rfl) (by kernel_rfl) (by kernel_rfl) (by kernel_rfl) (by decide) (fun _ _ _ _ _ h=>h) (fun _ _ _ _ _ h=>h) (fun w' o h=>AtV.gr h (Gr.alloc w' o)) aK (by intro f hf;simp only [List.mem_cons,List.not_mem_nil,or_false] at hf;rcases hf with rfl<;>first | exact zq1 (z:=(.agg #[.bool false,.slice none 0 0,.bool false,.slice none 0 0,.bool false,.slice none 0 0,.bool false,.slice none 0 0,.bool false,.slice none 0 0,.bool false,.slice none 0 0,.bool false,.slice none 0 0,.bool false,.slice none 0 0,.bool false,.slice none 0 0,.bool false,.slice none 0 0,.bool false,.slice none 0 0,.bool false,.slice none 0 0,.bool false,.slice none 0 0,.bool false,.slice none 0 0,.bool false,.slice none 0 0,.bool false,.slice none 0 0,.bool false,.slice none 0 0,.bool false,.slice none 0 0,.bool false,.slice none 0 0,.bool false,.slice none 0 0,.bool false,.slice none 0 0,.bool false,.slice none 0 0,.bool false,.slice none 0 0,.bool false,.slice none 0 0])) (by kernel_rfl) rfl) ?_
  refine fv 26 v6 ?_
  refine fv 27 (.int .i64 ((nn:Int))) ?_
  refine fw 28 (adr v6 (nn*4)) rfl (fun w' hS=>(zS2 (e:=22) hs (by decide) nn (by rw [zb2];omega) _ _ _ rfl rfl rfl (by kernel_rfl) (by kernel_rfl))) ?_
  refine fw 29 (.agg #[(.int .i64 (((quarters).getD nn (0,0,0,0)).1)),(.int .i64 (((quarters).getD nn (0,0,0,0)).2.1)),(.int .i64 (((quarters).getD nn (0,0,0,0)).2.2.1)),(.int .i64 (((quarters).getD nn (0,0,0,0)).2.2.2))]) rfl (fun w' hS=>(zF7 [(.int .i64 (((quarters).getD nn (0,0,0,0)).1)),(.int .i64 (((quarters).getD nn (0,0,0,0)).2.1)),(.int .i64 (((quarters).getD nn (0,0,0,0)).2.2.1)),(.int .i64 (((quarters).getD nn (0,0,0,0)).2.2.2))] hS _ _ rfl rfl (by kernel_rfl))) ?_
  refine zc2 rfl rfl (fun gB dM _ f6 eS=>?_)
  replace hB:=hB.trans dM
  refine ec 30 (zI1 _) ?_
  rintro e21 gu ⟨rfl,cX⟩
  refine ⟨_,rfl,?_⟩
  replace hB:=hB.trans cX
  replace aK:=aK.gr (dM.trans cX)
  refine eS _ _ cX aK ?_
  try clear eS f6
  simp only [p3,p4]
  refine fv 31 (.agg #[(.int .i64 (((quarters).getD nn (0,0,0,0)).1)),(.int .i64 (((quarters).getD nn (0,0,0,0)).2.1)),(.int .i64 (((quarters).getD nn (0,0,0,0)).2.2.1)),(.int .i64 (((quarters).getD nn (0,0,0,0)).2.2.2)),(.string ⟨([48]:List UInt8).toArray⟩),(.string ⟨([48]:List UInt8).toArray⟩),(.string ⟨([48]:List UInt8).toArray⟩)]) ?_
  refine zc2 rfl rfl (fun gF dv _ fK dZ=>?_)
  replace hB:=hB.trans dv
  refine ec 32 (mof_0 (q_vt hlt) (q_rot hlt) _ (hm.gr hB) (ht.gr hB)) ?_
  rintro e23 gi ⟨⟨aY,aX,a3,aW,aZ,a0,a2,a5,a1,a4,ai,aA,aJ,ak,av,aG,ah,az,ay,aI,aj,af,ax,aD,aF,aw,aq,aH,ap,au,ae,aE,aC,ar,aB,al,bf,bd,bg,a7,bc,a8,ba,bb,a9,bh,bi,bj,rfl,aO,aN,aR,aU,aP,aS,aQ,aT,aM,bq,bm,bk⟩,c6⟩
  refine ⟨_,rfl,?_⟩
  replace hB:=hB.trans c6
  replace aK:=aK.gr (dv.trans c6)
  refine dZ _ _ c6 aK ?_
  try clear dZ fK
  simp only [p3,p4]
  refine fv 25 (.tuple #[(.agg #[aY,aX,a3,aW,aZ,a0,a2,a5,a1,a4,ai,aA,aJ,ak,av,aG,ah,az,ay,aI,aj,af,ax,aD,aF,aw,aq,aH,ap,au,ae,aE,aC,ar,aB,al,bf,bd,bg,a7,bc,a8,ba,bb,a9,bh,bi,bj]),.int .i64 0]) ?_
  refine fv 33 (.agg #[aY,aX,a3,aW,aZ,a0,a2,a5,a1,a4,ai,aA,aJ,ak,av,aG,ah,az,ay,aI,aj,af,ax,aD,aF,aw,aq,aH,ap,au,ae,aE,aC,ar,aB,al,bf,bd,bg,a7,bc,a8,ba,bb,a9,bh,bi,bj]) ?_
  refine fv 34 (.int .i64 0) ?_
  refine zU8 (fun gk bV _=>?_)
  replace hB:=hB.trans bV
  refine zV6 (fun bv aL dB=>?_)
  replace aL:Lc _ _ _ _:=aL
  replace dB:=Nat.le_trans dh dB
  simp only [zB4,p3,p4]
  refine oe ?_
  have dc:=aL
  refine es 41 0 (.agg #[aY,aX,a3,aW,aZ,a0,a2,a5,a1,a4,ai,aA,aJ,ak,av,aG,ah,az,ay,aI,aj,af,ax,aD,aF,aw,aq,aH,ap,au,ae,aE,aC,ar,aB,al,bf,bd,bg,a7,bc,a8,ba,bb,a9,bh,bi,bj]) [aY,aX,a3,aW,aZ,a0,a2,a5,a1,a4,ai,aA,aJ,ak,av,aG,ah,az,ay,aI,aj,af,ax,aD,aF,aw,aq,aH,ap,au,ae,aE,aC,ar,aB,al,bf,bd,bg,a7,bc,a8,ba,bb,a9,bh,bi,bj] #[aY,aX,a3,aW,aZ,a0,a2,a5,a1,a4,ai,aA,aJ,ak,av,aG,ah,az,ay,aI,aj,af,ax,aD,aF,aw,aq,aH,ap,au,ae,aE,aC,ar,aB,al,bf,bd,bg,a7,bc,a8,ba,bb,a9,bh,bi,bj] aL hB dB ⟨aO.one0,aO.one1,aO.one2,aO.one3,aN.one0,aN.one1,aN.one2,aN.one3,aR.one0,aR.one1,aR.one2,aR.one3,aU.one0,aU.one1,aU.one2,aU.one3,aP.one0,aP.one1,aP.one2,aP.one3,aS.one0,aS.one1,aS.one2,aS.one3,aQ.one0,aQ.one1,aQ.one2,aQ.one3,aT.one0,aT.one1,aT.one2,aT.one3,aM.one0,aM.one1,aM.one2,aM.one3,bq.one0,bq.one1,bq.one2,bq.one3,bm.one0,bm.one1,bm.one2,bm.one3,bk.one0,bk.one1,bk.one2,bk.one3,trivial⟩ fun fy dH bu aL hB=>?_
  replace hs:=((((((hs.gr za8 cc).gr za8 dM).gr za8 cX).gr za8 dv).gr za8 c6).gr za8 bV).kts za8 (dH.kts dc (by decide))
  have aK:=(atq4 (n:=nn) hs (by rw [zb2];omega))
  refine ⟨aK,?_⟩
  refine ov 8 (.int .i64 0) ?_
  refine zb1 ?_
  refine et _ _ ?_
  try clear et gb
  refine wp_seq_k (fun d0 c5=>?_)
  refine wp_seq_k (fun ed cY=>?_)
  obtain ⟨_,_,rfl,bn⟩:=hs.get (by decide) (getD_some (d:=((0,0,0,0):Int × Int × Int × Int)) (i:=(nn - 1)) (xs:=quarters) (by rw [zb2];omega))
  have a6:=Gr.drew fy
  replace hB:=hB.trans a6
  replace aK:=aK.gr a6
  replace bn:=bn.gr a6
  refine za2 (fun w'=>AtV w' v6 (nn*4) [(.int .i64 (((quarters).getD nn (0,0,0,0)).1)),(.int .i64 (((quarters).getD nn (0,0,0,0)).2.1)),(.int .i64 (((quarters).getD nn (0,0,0,0)).2.2.1)),(.int .i64 (((quarters).getD nn (0,0,0,0)).2.2.2))]∧AtV w' v6 ((nn - 1)*4) [(.int .i64 (((quarters).getD (nn - 1) (0,0,0,0)).1)),(.int .i64 (((quarters).getD (nn - 1) (0,0,0,0)).2.1)),(.int .i64 (((quarters).getD (nn - 1) (0,0,0,0)).2.2.1)),(.int .i64 (((quarters).getD (nn - 1) (0,0,0,0)).2.2.2))]) [(true,0),(true,1),(true,2),(true,3),(true,4),(true,5),(true,6),(true,7),(true,8),(true,9),(true,10),(true,11),(true,12),(true,13),(true,14),(false,15),(true,16),(true,17),(true,18)] (by kernel_rfl) (by kernel_rfl) (by kernel_rfl) (by decide) (fun _ _ _ _ _ h=>h) ⟨aK,bn⟩ ?_
  refine ov 35 (.int .i64 0) ?_
  refine ov 36 (.bool false) ?_
  refine ov 37 (.bool false) ?_
  refine ov 38 (.int .i64 ((nn:Int))) ?_
  refine ov 39 (.bool (decide ((0:Int)<(nn:Int)))) ?_
  rcases Bool.eq_false_or_eq_true (decide ((0:Int)<(nn:Int))) with hb33 | hb33
  ·have hpos:0<nn:=by have:=of_decide_eq_true hb33;omega
   refine ow 40 (.bool true) rfl (fun w' hS=>(RunV.bool (x:=decide ((0:Int)<(nn:Int))) (rvk (by kernel_rfl)) hb33)) ?_
   refine ov 41 v6 ?_
   refine ov 42 (.int .i64 ((nn:Int))) ?_
   refine ow 43 (.int .i64 (((nn - 1:Nat):Int))) rfl (fun w' hS=>(RunV.int (x:=IntKind.i64.wrap ((nn:Int) - 1)) (y:=((nn - 1:Nat):Int)) (rvk (by kernel_rfl)) (by rw [IntKind.wrap_i64];omega))) ?_
   refine ow 44 (adr v6 ((nn - 1)*4)) rfl (fun w' hS=>(zS2 (e:=22) hs (by decide) (nn - 1) (by rw [zb2];omega) _ _ _ rfl rfl rfl (by kernel_rfl) (by kernel_rfl))) ?_
   refine ow 45 (.agg #[(.int .i64 (((quarters).getD (nn - 1) (0,0,0,0)).1)),(.int .i64 (((quarters).getD (nn - 1) (0,0,0,0)).2.1)),(.int .i64 (((quarters).getD (nn - 1) (0,0,0,0)).2.2.1)),(.int .i64 (((quarters).getD (nn - 1) (0,0,0,0)).2.2.2))]) rfl (fun w' hS=>(zF7 [(.int .i64 (((quarters).getD (nn - 1) (0,0,0,0)).1)),(.int .i64 (((quarters).getD (nn - 1) (0,0,0,0)).2.1)),(.int .i64 (((quarters).getD (nn - 1) (0,0,0,0)).2.2.1)),(.int .i64 (((quarters).getD (nn - 1) (0,0,0,0)).2.2.2))] hS.2 _ _ rfl rfl (by kernel_rfl))) ?_
   refine ov 46 v6 ?_
   refine ov 47 (.int .i64 ((nn:Int))) ?_
   refine ow 48 (adr v6 (nn*4)) rfl (fun w' hS=>(zS2 (e:=22) hs (by decide) nn (by rw [zb2];omega) _ _ _ rfl rfl rfl (by kernel_rfl) (by kernel_rfl))) ?_
   refine ow 49 (.agg #[(.int .i64 (((quarters).getD nn (0,0,0,0)).1)),(.int .i64 (((quarters).getD nn (0,0,0,0)).2.1)),(.int .i64 (((quarters).getD nn (0,0,0,0)).2.2.1)),(.int .i64 (((quarters).getD nn (0,0,0,0)).2.2.2))]) rfl (fun w' hS=>(zF7 [(.int .i64 (((quarters).getD nn (0,0,0,0)).1)),(.int .i64 (((quarters).getD nn (0,0,0,0)).2.1)),(.int .i64 (((quarters).getD nn (0,0,0,0)).2.2.1)),(.int .i64 (((quarters).getD nn (0,0,0,0)).2.2.2))] hS.1 _ _ rfl rfl (by kernel_rfl))) ?_
   refine oe ?_
   refine ec 50 (before7 (((quarters).getD (nn - 1) (0,0,0,0)).1) (((quarters).getD (nn - 1) (0,0,0,0)).2.1) (((quarters).getD (nn - 1) (0,0,0,0)).2.2.1) (((quarters).getD (nn - 1) (0,0,0,0)).2.2.2) (((quarters).getD nn (0,0,0,0)).1) (((quarters).getD nn (0,0,0,0)).2.1) (((quarters).getD nn (0,0,0,0)).2.2.1) (((quarters).getD nn (0,0,0,0)).2.2.2) _) ?_
   rintro gj gx ⟨rfl,b6⟩
   refine ⟨_,rfl,?_⟩
   replace hB:=hB.trans b6
   replace aK:=aK.gr b6
   replace bn:=bn.gr b6
   refine ⟨⟨aK,bn⟩,?_⟩
   simp only [p3,p4]
   have dl:(yp6 (((quarters).getD (nn - 1) (0,0,0,0)).1) (((quarters).getD (nn - 1) (0,0,0,0)).2.1) (((quarters).getD (nn - 1) (0,0,0,0)).2.2.1) (((quarters).getD (nn - 1) (0,0,0,0)).2.2.2) (((quarters).getD nn (0,0,0,0)).1) (((quarters).getD nn (0,0,0,0)).2.1) (((quarters).getD nn (0,0,0,0)).2.2.1) (((quarters).getD nn (0,0,0,0)).2.2.2))=true:=(q_before hpos hlt)
   refine ow 51 (.bool false) rfl (fun w' hS=>(RunV.bool (x:=!(yp6 (((quarters).getD (nn - 1) (0,0,0,0)).1) (((quarters).getD (nn - 1) (0,0,0,0)).2.1) (((quarters).getD (nn - 1) (0,0,0,0)).2.2.1) (((quarters).getD (nn - 1) (0,0,0,0)).2.2.2) (((quarters).getD nn (0,0,0,0)).1) (((quarters).getD nn (0,0,0,0)).2.1) (((quarters).getD nn (0,0,0,0)).2.2.1) (((quarters).getD nn (0,0,0,0)).2.2.2))) (rvk (by kernel_rfl)) (show (!(yp6 (((quarters).getD (nn - 1) (0,0,0,0)).1) (((quarters).getD (nn - 1) (0,0,0,0)).2.1) (((quarters).getD (nn - 1) (0,0,0,0)).2.2.1) (((quarters).getD (nn - 1) (0,0,0,0)).2.2.2) (((quarters).getD nn (0,0,0,0)).1) (((quarters).getD nn (0,0,0,0)).2.1) (((quarters).getD nn (0,0,0,0)).2.2.1) (((quarters).getD nn (0,0,0,0)).2.2.2)))=false by rw [dl];rfl))) ?_
   refine ov 52 (.bool false) ?_
   refine ov 53 (.bool false) ?_
   refine zb1 ?_
   refine cY _ _ ?_
   try clear cY ed
   refine wp_cond_false rfl ?_
   refine wp_skip ?_
   refine c5 _ _ ?_
   try clear c5 d0
   refine wp_seq_k (fun fP eQ=>?_)
   refine rg [0] ?_
   refine sv 9 (.int .i64 0) ?_
   refine za0 ?_
   refine eQ _ _ ?_
   try clear eQ fP
   refine wp_block ?_
   refine wp_loop_rounds 6 ?_
   show Code.wp _ _ _ _ _
   refine wp_seq_k (fun fx ex=>?_)
   refine wp_seq_k (fun fo eA=>?_)
   refine rg [0,1] ?_
   refine sv 54 (.int .i64 0) ?_
   refine sv 55 (.bool true) ?_
   refine za0 ?_
   refine eA _ _ ?_
   try clear eA fo
   refine wp_cond_true rfl ?_
   refine wp_skip ?_
   refine ex _ _ ?_
   try clear ex fx
   refine wp_seq_k (fun gd ez=>?_)
   refine wp_block ?_
   refine wp_seq_k (fun fi eM=>?_)
   refine rg [0,1,2,3,4,5,6,7,8,9,10] ?_
   refine sv 59 (.int .i64 0) ?_
   refine sv 60 (.pointer (some ⟨bv,0,none⟩)) ?_
   refine sv 61 (.pointer (some ⟨bv,0,none⟩)) ?_
   replace aL:=aL.gr (a6.trans b6)
   refine sw 62 (.agg #[aY,aX,a3,aW,aZ,a0,a2,a5,a1,a4,ai,aA]) rfl (rl 38 0 [aY,aX,a3,aW,aZ,a0,a2,a5,a1,a4,ai,aA] aL) ?_
   refine se ?_
   have ca:=bV.kp.trans (bu.trans (a6.kp.trans b6.kp))
   replace aO:=aO.kp ca
   replace aN:=aN.kp ca
   replace aR:=aR.kp ca
   refine ec 63 (zx0 (by omega) (by omega) (by omega) aO aN aR (by omega)) ?_
   rintro gH gy ⟨rfl,cQ⟩
   refine ⟨_,rfl,?_⟩
   replace hB:=hB.trans cQ
   simp only [p3,p4]
   refine sv 58 (.tuple #[(.agg #[(.int .i64 ((qe nn 0 0))),(.int .i64 ((qe nn 0 1))),(.int .i64 ((qe nn 0 2)))]),.int .i64 0]) ?_
   refine sv 64 (.agg #[(.int .i64 ((qe nn 0 0))),(.int .i64 ((qe nn 0 1))),(.int .i64 ((qe nn 0 2)))]) ?_
   refine sv 65 (.int .i64 0) ?_
   refine se ?_
   refine ea 101 #[.int .i64 0,.int .i64 0,.int .i64 0] 10 hB fun cl gD c8 bL eX fj hB=>?_
   replace aL:=aL.gr cQ
   have bC:=aL.ne eX
   simp only [p3,p4]
   refine se ?_
   have dA:=bL
   refine es 101 0 (.agg #[(.int .i64 ((qe nn 0 0))),(.int .i64 ((qe nn 0 1))),(.int .i64 ((qe nn 0 2)))]) [(.int .i64 ((qe nn 0 0))),(.int .i64 ((qe nn 0 1))),(.int .i64 ((qe nn 0 2)))] #[(.int .i64 ((qe nn 0 0))),(.int .i64 ((qe nn 0 1))),(.int .i64 ((qe nn 0 2)))] bL hB fj ⟨rfl,rfl,rfl,trivial⟩ fun gE cR cG bL hB=>?_
   refine sv 11 (.int .i64 0) ?_
   refine za0 ?_
   refine eM _ _ ?_
   try clear eM fi
   refine wp_seq_k (fun fA d2=>?_)
   refine rg [0,1,2,3,4,5,6,7,8,9,10,11,12,13,14,15,16,17,18,19,20,21] ?_
   refine sv 66 (.int .i64 0) ?_
   refine sv 67 (.bool false) ?_
   refine sv 68 (.bool false) ?_
   refine sv 69 (.pointer (some ⟨cl,0,none⟩)) ?_
   refine sw 70 (.int .i64 ((qe nn 0 0))) rfl (rk 3 0 bL) ?_
   refine sv 71 (.pointer (some ⟨cl,0,none⟩)) ?_
   refine sw 72 (.int .i64 ((qe nn 0 0))) rfl (rk 3 0 bL) ?_
   refine sw 73 (.int .i64 (((qe nn 0 0)*(qe nn 0 0)))) rfl (RunV.int (x:=IntKind.i64.wrap (((qe nn 0 0)*(qe nn 0 0)))) (y:=((qe nn 0 0)*(qe nn 0 0))) (rvk (by kernel_rfl)) (by first | rfl | (rw [IntKind.wrap_i64];omega))) ?_
   refine sv 74 (.pointer (some ⟨cl,1,none⟩)) ?_
   refine sw 75 (.int .i64 ((qe nn 0 1))) rfl (rk 3 1 bL) ?_
   refine sv 76 (.pointer (some ⟨cl,1,none⟩)) ?_
   refine sw 77 (.int .i64 ((qe nn 0 1))) rfl (rk 3 1 bL) ?_
   refine sw 78 (.int .i64 (((qe nn 0 1)*(qe nn 0 1)))) rfl (RunV.int (x:=IntKind.i64.wrap (((qe nn 0 1)*(qe nn 0 1)))) (y:=((qe nn 0 1)*(qe nn 0 1))) (rvk (by kernel_rfl)) (by first | rfl | (rw [IntKind.wrap_i64];omega))) ?_
   refine sw 79 (.int .i64 ((((qe nn 0 0)*(qe nn 0 0))+((qe nn 0 1)*(qe nn 0 1))))) rfl (RunV.int (x:=IntKind.i64.wrap ((((qe nn 0 0)*(qe nn 0 0))+((qe nn 0 1)*(qe nn 0 1))))) (y:=(((qe nn 0 0)*(qe nn 0 0))+((qe nn 0 1)*(qe nn 0 1)))) (rvk (by kernel_rfl)) (by first | rfl | (rw [IntKind.wrap_i64];omega))) ?_
   refine sv 80 (.pointer (some ⟨cl,2,none⟩)) ?_
   refine sw 81 (.int .i64 ((qe nn 0 2))) rfl (rk 3 2 bL) ?_
   refine sv 82 (.pointer (some ⟨cl,2,none⟩)) ?_
   refine sw 83 (.int .i64 ((qe nn 0 2))) rfl (rk 3 2 bL) ?_
   refine sw 84 (.int .i64 (((qe nn 0 2)*(qe nn 0 2)))) rfl (RunV.int (x:=IntKind.i64.wrap (((qe nn 0 2)*(qe nn 0 2)))) (y:=((qe nn 0 2)*(qe nn 0 2))) (rvk (by kernel_rfl)) (by first | rfl | (rw [IntKind.wrap_i64];omega))) ?_
   refine sw 85 (.int .i64 (((((qe nn 0 0)*(qe nn 0 0))+((qe nn 0 1)*(qe nn 0 1)))+((qe nn 0 2)*(qe nn 0 2))))) rfl (RunV.int (x:=IntKind.i64.wrap (((((qe nn 0 0)*(qe nn 0 0))+((qe nn 0 1)*(qe nn 0 1)))+((qe nn 0 2)*(qe nn 0 2))))) (y:=((((qe nn 0 0)*(qe nn 0 0))+((qe nn 0 1)*(qe nn 0 1)))+((qe nn 0 2)*(qe nn 0 2)))) (rvk (by kernel_rfl)) (by first | rfl | (rw [IntKind.wrap_i64];omega))) ?_
   have dj:((((((qe nn 0 0)*(qe nn 0 0))+((qe nn 0 1)*(qe nn 0 1)))+((qe nn 0 2)*(qe nn 0 2))) !=(1:Int)))=false:=(yg7 (i:=0) hlt (by omega))
   refine sw 86 (.bool false) rfl (RunV.bool (x:=(((((qe nn 0 0)*(qe nn 0 0))+((qe nn 0 1)*(qe nn 0 1)))+((qe nn 0 2)*(qe nn 0 2))) !=(1:Int))) (rvk (by kernel_rfl)) dj) ?_
   refine sv 87 (.bool false) ?_
   refine za0 ?_
   refine d2 _ _ ?_
   try clear d2 fA
   refine wp_cond_false rfl ?_
   refine wp_skip ?_
   refine ez _ _ ?_
   try clear ez gd
   refine rg [0,1,2] ?_
   refine sv 56 (.int .i64 0) ?_
   refine sv 57 (.int .i64 1) ?_
   refine sv 9 (.int .i64 1) ?_
   refine za0 ?_
   show Code.rounds _ _ _ _ _ _
   show Code.wp _ _ _ _ _
   refine wp_seq_k (fun fu dU=>?_)
   refine wp_seq_k (fun fD en=>?_)
   refine rg [0,1] ?_
   refine sv 54 (.int .i64 1) ?_
   refine sv 55 (.bool true) ?_
   refine za0 ?_
   refine en _ _ ?_
   try clear en fD
   refine wp_cond_true rfl ?_
   refine wp_skip ?_
   refine dU _ _ ?_
   try clear dU fu
   refine wp_seq_k (fun fU eP=>?_)
   refine wp_block ?_
   refine wp_seq_k (fun eU ej=>?_)
   refine rg [0,1,2,3,4,5,6,7,8,9,10] ?_
   refine sv 59 (.int .i64 1) ?_
   refine sv 60 (.pointer (some ⟨bv,0,none⟩)) ?_
   refine sv 61 (.pointer (some ⟨bv,12,none⟩)) ?_
   replace aL:=cR.lc (aL.gr c8) bC
   refine sw 62 (.agg #[aJ,ak,av,aG,ah,az,ay,aI,aj,af,ax,aD]) rfl (rl 38 12 [aJ,ak,av,aG,ah,az,ay,aI,aj,af,ax,aD] aL) ?_
   refine se ?_
   have cd:=bV.kp.trans (bu.trans (a6.kp.trans (b6.kp.trans (cQ.kp.trans (c8.kp.trans cG)))))
   replace aU:=aU.kp cd
   replace aP:=aP.kp cd
   replace aS:=aS.kp cd
   refine ec 63 (zx0 (by omega) (by omega) (by omega) aU aP aS (by omega)) ?_
   rintro gs gg ⟨rfl,c4⟩
   refine ⟨_,rfl,?_⟩
   replace hB:=hB.trans c4
   simp only [p3,p4]
   refine sv 58 (.tuple #[(.agg #[(.int .i64 ((qe nn 1 0))),(.int .i64 ((qe nn 1 1))),(.int .i64 ((qe nn 1 2)))]),.int .i64 0]) ?_
   refine sv 64 (.agg #[(.int .i64 ((qe nn 1 0))),(.int .i64 ((qe nn 1 1))),(.int .i64 ((qe nn 1 2)))]) ?_
   refine sv 65 (.int .i64 0) ?_
   refine se ?_
   refine ea 101 #[.int .i64 0,.int .i64 0,.int .i64 0] 10 hB fun ch gL de bK e1 fZ hB=>?_
   replace aL:=aL.gr c4
   have bE:=aL.ne e1
   simp only [p3,p4]
   refine se ?_
   have du:=bK
   refine es 101 0 (.agg #[(.int .i64 ((qe nn 1 0))),(.int .i64 ((qe nn 1 1))),(.int .i64 ((qe nn 1 2)))]) [(.int .i64 ((qe nn 1 0))),(.int .i64 ((qe nn 1 1))),(.int .i64 ((qe nn 1 2)))] #[(.int .i64 ((qe nn 1 0))),(.int .i64 ((qe nn 1 1))),(.int .i64 ((qe nn 1 2)))] bK hB fZ ⟨rfl,rfl,rfl,trivial⟩ fun gN cU dD bK hB=>?_
   refine sv 11 (.int .i64 0) ?_
   refine za0 ?_
   refine ej _ _ ?_
   try clear ej eU
   refine wp_seq_k (fun fS eH=>?_)
   refine rg [0,1,2,3,4,5,6,7,8,9,10,11,12,13,14,15,16,17,18,19,20,21] ?_
   refine sv 66 (.int .i64 0) ?_
   refine sv 67 (.bool false) ?_
   refine sv 68 (.bool false) ?_
   refine sv 69 (.pointer (some ⟨ch,0,none⟩)) ?_
   refine sw 70 (.int .i64 ((qe nn 1 0))) rfl (rk 3 0 bK) ?_
   refine sv 71 (.pointer (some ⟨ch,0,none⟩)) ?_
   refine sw 72 (.int .i64 ((qe nn 1 0))) rfl (rk 3 0 bK) ?_
   refine sw 73 (.int .i64 (((qe nn 1 0)*(qe nn 1 0)))) rfl (RunV.int (x:=IntKind.i64.wrap (((qe nn 1 0)*(qe nn 1 0)))) (y:=((qe nn 1 0)*(qe nn 1 0))) (rvk (by kernel_rfl)) (by first | rfl | (rw [IntKind.wrap_i64];omega))) ?_
   refine sv 74 (.pointer (some ⟨ch,1,none⟩)) ?_
   refine sw 75 (.int .i64 ((qe nn 1 1))) rfl (rk 3 1 bK) ?_
   refine sv 76 (.pointer (some ⟨ch,1,none⟩)) ?_
   refine sw 77 (.int .i64 ((qe nn 1 1))) rfl (rk 3 1 bK) ?_
   refine sw 78 (.int .i64 (((qe nn 1 1)*(qe nn 1 1)))) rfl (RunV.int (x:=IntKind.i64.wrap (((qe nn 1 1)*(qe nn 1 1)))) (y:=((qe nn 1 1)*(qe nn 1 1))) (rvk (by kernel_rfl)) (by first | rfl | (rw [IntKind.wrap_i64];omega))) ?_
   refine sw 79 (.int .i64 ((((qe nn 1 0)*(qe nn 1 0))+((qe nn 1 1)*(qe nn 1 1))))) rfl (RunV.int (x:=IntKind.i64.wrap ((((qe nn 1 0)*(qe nn 1 0))+((qe nn 1 1)*(qe nn 1 1))))) (y:=(((qe nn 1 0)*(qe nn 1 0))+((qe nn 1 1)*(qe nn 1 1)))) (rvk (by kernel_rfl)) (by first | rfl | (rw [IntKind.wrap_i64];omega))) ?_
   refine sv 80 (.pointer (some ⟨ch,2,none⟩)) ?_
   refine sw 81 (.int .i64 ((qe nn 1 2))) rfl (rk 3 2 bK) ?_
   refine sv 82 (.pointer (some ⟨ch,2,none⟩)) ?_
   refine sw 83 (.int .i64 ((qe nn 1 2))) rfl (rk 3 2 bK) ?_
   refine sw 84 (.int .i64 (((qe nn 1 2)*(qe nn 1 2)))) rfl (RunV.int (x:=IntKind.i64.wrap (((qe nn 1 2)*(qe nn 1 2)))) (y:=((qe nn 1 2)*(qe nn 1 2))) (rvk (by kernel_rfl)) (by first | rfl | (rw [IntKind.wrap_i64];omega))) ?_
   refine sw 85 (.int .i64 (((((qe nn 1 0)*(qe nn 1 0))+((qe nn 1 1)*(qe nn 1 1)))+((qe nn 1 2)*(qe nn 1 2))))) rfl (RunV.int (x:=IntKind.i64.wrap (((((qe nn 1 0)*(qe nn 1 0))+((qe nn 1 1)*(qe nn 1 1)))+((qe nn 1 2)*(qe nn 1 2))))) (y:=((((qe nn 1 0)*(qe nn 1 0))+((qe nn 1 1)*(qe nn 1 1)))+((qe nn 1 2)*(qe nn 1 2)))) (rvk (by kernel_rfl)) (by first | rfl | (rw [IntKind.wrap_i64];omega))) ?_
   have dE:((((((qe nn 1 0)*(qe nn 1 0))+((qe nn 1 1)*(qe nn 1 1)))+((qe nn 1 2)*(qe nn 1 2))) !=(1:Int)))=false:=(yg7 (i:=1) hlt (by omega))
   refine sw 86 (.bool false) rfl (RunV.bool (x:=(((((qe nn 1 0)*(qe nn 1 0))+((qe nn 1 1)*(qe nn 1 1)))+((qe nn 1 2)*(qe nn 1 2))) !=(1:Int))) (rvk (by kernel_rfl)) dE) ?_
   refine sv 87 (.bool false) ?_
   refine za0 ?_
   refine eH _ _ ?_
   try clear eH fS
   refine wp_cond_false rfl ?_
   refine wp_skip ?_
   refine eP _ _ ?_
   try clear eP fU
   refine rg [0,1,2] ?_
   refine sv 56 (.int .i64 1) ?_
   refine sv 57 (.int .i64 2) ?_
   refine sv 9 (.int .i64 2) ?_
   refine za0 ?_
   show Code.rounds _ _ _ _ _ _
   show Code.wp _ _ _ _ _
   refine wp_seq_k (fun fW eu=>?_)
   refine wp_seq_k (fun ga d5=>?_)
   refine rg [0,1] ?_
   refine sv 54 (.int .i64 2) ?_
   refine sv 55 (.bool true) ?_
   refine za0 ?_
   refine d5 _ _ ?_
   try clear d5 ga
   refine wp_cond_true rfl ?_
   refine wp_skip ?_
   refine eu _ _ ?_
   try clear eu fW
   refine wp_seq_k (fun e5 el=>?_)
   refine wp_block ?_
   refine wp_seq_k (fun fF eF=>?_)
   refine rg [0,1,2,3,4,5,6,7,8,9,10] ?_
   refine sv 59 (.int .i64 2) ?_
   refine sv 60 (.pointer (some ⟨bv,0,none⟩)) ?_
   refine sv 61 (.pointer (some ⟨bv,24,none⟩)) ?_
   replace aL:=cU.lc (aL.gr de) bE
   refine sw 62 (.agg #[aF,aw,aq,aH,ap,au,ae,aE,aC,ar,aB,al]) rfl (rl 38 24 [aF,aw,aq,aH,ap,au,ae,aE,aC,ar,aB,al] aL) ?_
   refine se ?_
   have ce:=bV.kp.trans (bu.trans (a6.kp.trans (b6.kp.trans (cQ.kp.trans (c8.kp.trans (cG.trans (c4.kp.trans (de.kp.trans dD))))))))
   replace aQ:=aQ.kp ce
   replace aT:=aT.kp ce
   replace aM:=aM.kp ce
   refine ec 63 (zx0 (by omega) (by omega) (by omega) aQ aT aM (by omega)) ?_
   rintro gw gp ⟨rfl,db⟩
   refine ⟨_,rfl,?_⟩
   replace hB:=hB.trans db
   simp only [p3,p4]
   refine sv 58 (.tuple #[(.agg #[(.int .i64 ((qe nn 2 0))),(.int .i64 ((qe nn 2 1))),(.int .i64 ((qe nn 2 2)))]),.int .i64 0]) ?_
   refine sv 64 (.agg #[(.int .i64 ((qe nn 2 0))),(.int .i64 ((qe nn 2 1))),(.int .i64 ((qe nn 2 2)))]) ?_
   refine sv 65 (.int .i64 0) ?_
   refine se ?_
   refine ea 101 #[.int .i64 0,.int .i64 0,.int .i64 0] 10 hB fun cj gQ fQ bD gt f1 hB=>?_
   replace aL:=aL.gr db
   simp only [p3,p4]
   refine se ?_
   have dt:=bD
   refine es 101 0 (.agg #[(.int .i64 ((qe nn 2 0))),(.int .i64 ((qe nn 2 1))),(.int .i64 ((qe nn 2 2)))]) [(.int .i64 ((qe nn 2 0))),(.int .i64 ((qe nn 2 1))),(.int .i64 ((qe nn 2 2)))] #[(.int .i64 ((qe nn 2 0))),(.int .i64 ((qe nn 2 1))),(.int .i64 ((qe nn 2 2)))] bD hB f1 ⟨rfl,rfl,rfl,trivial⟩ fun gJ dk fO bD hB=>?_
   refine sv 11 (.int .i64 0) ?_
   refine za0 ?_
   refine eF _ _ ?_
   try clear eF fF
   refine wp_seq_k (fun fa dS=>?_)
   refine rg [0,1,2,3,4,5,6,7,8,9,10,11,12,13,14,15,16,17,18,19,20,21] ?_
   refine sv 66 (.int .i64 0) ?_
   refine sv 67 (.bool false) ?_
   refine sv 68 (.bool false) ?_
   refine sv 69 (.pointer (some ⟨cj,0,none⟩)) ?_
   refine sw 70 (.int .i64 ((qe nn 2 0))) rfl (rk 3 0 bD) ?_
   refine sv 71 (.pointer (some ⟨cj,0,none⟩)) ?_
   refine sw 72 (.int .i64 ((qe nn 2 0))) rfl (rk 3 0 bD) ?_
   refine sw 73 (.int .i64 (((qe nn 2 0)*(qe nn 2 0)))) rfl (RunV.int (x:=IntKind.i64.wrap (((qe nn 2 0)*(qe nn 2 0)))) (y:=((qe nn 2 0)*(qe nn 2 0))) (rvk (by kernel_rfl)) (by first | rfl | (rw [IntKind.wrap_i64];omega))) ?_
   refine sv 74 (.pointer (some ⟨cj,1,none⟩)) ?_
   refine sw 75 (.int .i64 ((qe nn 2 1))) rfl (rk 3 1 bD) ?_
   refine sv 76 (.pointer (some ⟨cj,1,none⟩)) ?_
   refine sw 77 (.int .i64 ((qe nn 2 1))) rfl (rk 3 1 bD) ?_
   refine sw 78 (.int .i64 (((qe nn 2 1)*(qe nn 2 1)))) rfl (RunV.int (x:=IntKind.i64.wrap (((qe nn 2 1)*(qe nn 2 1)))) (y:=((qe nn 2 1)*(qe nn 2 1))) (rvk (by kernel_rfl)) (by first | rfl | (rw [IntKind.wrap_i64];omega))) ?_
   refine sw 79 (.int .i64 ((((qe nn 2 0)*(qe nn 2 0))+((qe nn 2 1)*(qe nn 2 1))))) rfl (RunV.int (x:=IntKind.i64.wrap ((((qe nn 2 0)*(qe nn 2 0))+((qe nn 2 1)*(qe nn 2 1))))) (y:=(((qe nn 2 0)*(qe nn 2 0))+((qe nn 2 1)*(qe nn 2 1)))) (rvk (by kernel_rfl)) (by first | rfl | (rw [IntKind.wrap_i64];omega))) ?_
   refine sv 80 (.pointer (some ⟨cj,2,none⟩)) ?_
   refine sw 81 (.int .i64 ((qe nn 2 2))) rfl (rk 3 2 bD) ?_
   refine sv 82 (.pointer (some ⟨cj,2,none⟩)) ?_
   refine sw 83 (.int .i64 ((qe nn 2 2))) rfl (rk 3 2 bD) ?_
   refine sw 84 (.int .i64 (((qe nn 2 2)*(qe nn 2 2)))) rfl (RunV.int (x:=IntKind.i64.wrap (((qe nn 2 2)*(qe nn 2 2)))) (y:=((qe nn 2 2)*(qe nn 2 2))) (rvk (by kernel_rfl)) (by first | rfl | (rw [IntKind.wrap_i64];omega))) ?_
   refine sw 85 (.int .i64 (((((qe nn 2 0)*(qe nn 2 0))+((qe nn 2 1)*(qe nn 2 1)))+((qe nn 2 2)*(qe nn 2 2))))) rfl (RunV.int (x:=IntKind.i64.wrap (((((qe nn 2 0)*(qe nn 2 0))+((qe nn 2 1)*(qe nn 2 1)))+((qe nn 2 2)*(qe nn 2 2))))) (y:=((((qe nn 2 0)*(qe nn 2 0))+((qe nn 2 1)*(qe nn 2 1)))+((qe nn 2 2)*(qe nn 2 2)))) (rvk (by kernel_rfl)) (by first | rfl | (rw [IntKind.wrap_i64];omega))) ?_
   have dy:((((((qe nn 2 0)*(qe nn 2 0))+((qe nn 2 1)*(qe nn 2 1)))+((qe nn 2 2)*(qe nn 2 2))) !=(1:Int)))=false:=(yg7 (i:=2) hlt (by omega))
   refine sw 86 (.bool false) rfl (RunV.bool (x:=(((((qe nn 2 0)*(qe nn 2 0))+((qe nn 2 1)*(qe nn 2 1)))+((qe nn 2 2)*(qe nn 2 2))) !=(1:Int))) (rvk (by kernel_rfl)) dy) ?_
   refine sv 87 (.bool false) ?_
   refine za0 ?_
   refine dS _ _ ?_
   try clear dS fa
   refine wp_cond_false rfl ?_
   refine wp_skip ?_
   refine el _ _ ?_
   try clear el e5
   refine rg [0,1,2] ?_
   refine sv 56 (.int .i64 2) ?_
   refine sv 57 (.int .i64 3) ?_
   refine sv 9 (.int .i64 3) ?_
   refine za0 ?_
   show Code.rounds _ _ _ _ _ _
   show Code.wp _ _ _ _ _
   refine wp_seq_k (fun gC gf=>?_)
   refine wp_seq_k (fun e9 eI=>?_)
   refine rg [0,1] ?_
   refine sv 54 (.int .i64 3) ?_
   refine sv 55 (.bool false) ?_
   refine za0 ?_
   refine eI _ _ ?_
   try clear eI e9
   refine wp_cond_false rfl ?_
   refine wp_exit ?_
   simp only [Exit.then,Exit.inBlock,↓reduceIte]
   refine c7 _ _ ?_
   try clear c7 ep
   refine rg [0,1,2] ?_
   refine sv 23 (.int .i64 ((nn:Int))) ?_
   refine sw 24 (.int .i64 (((nn:Int)+1))) rfl (RunV.int (x:=IntKind.i64.wrap (((nn:Int)+1))) (y:=((nn:Int)+1)) (rvk (by kernel_rfl)) (by first | rfl | (rw [IntKind.wrap_i64];omega))) ?_
   refine sv 6 (.int .i64 (((nn:Int)+1))) ?_
   refine za0 ?_
   replace hs:=((((((((((hs.gr za8 a6).gr za8 b6).gr za8 cQ).gr za8 c8).kts za8 (cR.kts dA (by decide))).gr za8 c4).gr za8 de).kts za8 (cU.kts du (by decide))).gr za8 db).gr za8 fQ).kts za8 (dk.kts dt (by decide))
   refine eE (24 - (nn+1)) ⟨List.toArray ?l70,[]⟩ _ (by omega) ?_
   exact ⟨nn+1,(fun i=>List.getD ?l70 i undef),rfl,rfl,(by omega),hs,hB⟩
  ·refine ow 40 (.bool false) rfl (fun w' hS=>(RunV.bool (x:=decide ((0:Int)<(nn:Int))) (rvk (by kernel_rfl)) hb33)) ?_
   refine os 41 ?_
   refine os 42 ?_
   refine os 43 ?_
   refine os 44 ?_
   refine os 45 ?_
   refine os 46 ?_
   refine os 47 ?_
   refine os 48 ?_
   refine os 49 ?_
   refine oz 50 ⟨aK,bn⟩ ?_
   refine os 51 ?_
   refine ov 52 (.bool false) ?_
   refine ov 53 (.bool false) ?_
   refine zb1 ?_
   refine cY _ _ ?_
   try clear cY ed
   refine wp_cond_false rfl ?_
   refine wp_skip ?_
   refine c5 _ _ ?_
   try clear c5 d0
   refine wp_seq_k (fun fp ew=>?_)
   refine rg [0] ?_
   refine sv 9 (.int .i64 0) ?_
   refine za0 ?_
   refine ew _ _ ?_
   try clear ew fp
   refine wp_block ?_
   refine wp_loop_rounds 6 ?_
   show Code.wp _ _ _ _ _
   refine wp_seq_k (fun fd eK=>?_)
   refine wp_seq_k (fun fG ei=>?_)
   refine rg [0,1] ?_
   refine sv 54 (.int .i64 0) ?_
   refine sv 55 (.bool true) ?_
   refine za0 ?_
   refine ei _ _ ?_
   try clear ei fG
   refine wp_cond_true rfl ?_
   refine wp_skip ?_
   refine eK _ _ ?_
   try clear eK fd
   refine wp_seq_k (fun fh eT=>?_)
   refine wp_block ?_
   refine wp_seq_k (fun gc dW=>?_)
   refine rg [0,1,2,3,4,5,6,7,8,9,10] ?_
   refine sv 59 (.int .i64 0) ?_
   refine sv 60 (.pointer (some ⟨bv,0,none⟩)) ?_
   refine sv 61 (.pointer (some ⟨bv,0,none⟩)) ?_
   replace aL:=aL.gr a6
   refine sw 62 (.agg #[aY,aX,a3,aW,aZ,a0,a2,a5,a1,a4,ai,aA]) rfl (rl 38 0 [aY,aX,a3,aW,aZ,a0,a2,a5,a1,a4,ai,aA] aL) ?_
   refine se ?_
   have b8:=bV.kp.trans (bu.trans a6.kp)
   replace aO:=aO.kp b8
   replace aN:=aN.kp b8
   replace aR:=aR.kp b8
   refine ec 63 (zx0 (by omega) (by omega) (by omega) aO aN aR (by omega)) ?_
   rintro gR gl ⟨rfl,cO⟩
   refine ⟨_,rfl,?_⟩
   replace hB:=hB.trans cO
   simp only [p3,p4]
   refine sv 58 (.tuple #[(.agg #[(.int .i64 ((qe nn 0 0))),(.int .i64 ((qe nn 0 1))),(.int .i64 ((qe nn 0 2)))]),.int .i64 0]) ?_
   refine sv 64 (.agg #[(.int .i64 ((qe nn 0 0))),(.int .i64 ((qe nn 0 1))),(.int .i64 ((qe nn 0 2)))]) ?_
   refine sv 65 (.int .i64 0) ?_
   refine se ?_
   refine ea 101 #[.int .i64 0,.int .i64 0,.int .i64 0] 10 hB fun ck gM cZ bM eW fR hB=>?_
   replace aL:=aL.gr cO
   have bH:=aL.ne eW
   simp only [p3,p4]
   refine se ?_
   have dN:=bM
   refine es 101 0 (.agg #[(.int .i64 ((qe nn 0 0))),(.int .i64 ((qe nn 0 1))),(.int .i64 ((qe nn 0 2)))]) [(.int .i64 ((qe nn 0 0))),(.int .i64 ((qe nn 0 1))),(.int .i64 ((qe nn 0 2)))] #[(.int .i64 ((qe nn 0 0))),(.int .i64 ((qe nn 0 1))),(.int .i64 ((qe nn 0 2)))] bM hB fR ⟨rfl,rfl,rfl,trivial⟩ fun gm cE cN bM hB=>?_
   refine sv 11 (.int .i64 0) ?_
   refine za0 ?_
   refine dW _ _ ?_
   try clear dW gc
   refine wp_seq_k (fun f7 eJ=>?_)
   refine rg [0,1,2,3,4,5,6,7,8,9,10,11,12,13,14,15,16,17,18,19,20,21] ?_
   refine sv 66 (.int .i64 0) ?_
   refine sv 67 (.bool false) ?_
   refine sv 68 (.bool false) ?_
   refine sv 69 (.pointer (some ⟨ck,0,none⟩)) ?_
   refine sw 70 (.int .i64 ((qe nn 0 0))) rfl (rk 3 0 bM) ?_
   refine sv 71 (.pointer (some ⟨ck,0,none⟩)) ?_
   refine sw 72 (.int .i64 ((qe nn 0 0))) rfl (rk 3 0 bM) ?_
   refine sw 73 (.int .i64 (((qe nn 0 0)*(qe nn 0 0)))) rfl (RunV.int (x:=IntKind.i64.wrap (((qe nn 0 0)*(qe nn 0 0)))) (y:=((qe nn 0 0)*(qe nn 0 0))) (rvk (by kernel_rfl)) (by first | rfl | (rw [IntKind.wrap_i64];omega))) ?_
   refine sv 74 (.pointer (some ⟨ck,1,none⟩)) ?_
   refine sw 75 (.int .i64 ((qe nn 0 1))) rfl (rk 3 1 bM) ?_
   refine sv 76 (.pointer (some ⟨ck,1,none⟩)) ?_
   refine sw 77 (.int .i64 ((qe nn 0 1))) rfl (rk 3 1 bM) ?_
   refine sw 78 (.int .i64 (((qe nn 0 1)*(qe nn 0 1)))) rfl (RunV.int (x:=IntKind.i64.wrap (((qe nn 0 1)*(qe nn 0 1)))) (y:=((qe nn 0 1)*(qe nn 0 1))) (rvk (by kernel_rfl)) (by first | rfl | (rw [IntKind.wrap_i64];omega))) ?_
   refine sw 79 (.int .i64 ((((qe nn 0 0)*(qe nn 0 0))+((qe nn 0 1)*(qe nn 0 1))))) rfl (RunV.int (x:=IntKind.i64.wrap ((((qe nn 0 0)*(qe nn 0 0))+((qe nn 0 1)*(qe nn 0 1))))) (y:=(((qe nn 0 0)*(qe nn 0 0))+((qe nn 0 1)*(qe nn 0 1)))) (rvk (by kernel_rfl)) (by first | rfl | (rw [IntKind.wrap_i64];omega))) ?_
   refine sv 80 (.pointer (some ⟨ck,2,none⟩)) ?_
   refine sw 81 (.int .i64 ((qe nn 0 2))) rfl (rk 3 2 bM) ?_
   refine sv 82 (.pointer (some ⟨ck,2,none⟩)) ?_
   refine sw 83 (.int .i64 ((qe nn 0 2))) rfl (rk 3 2 bM) ?_
   refine sw 84 (.int .i64 (((qe nn 0 2)*(qe nn 0 2)))) rfl (RunV.int (x:=IntKind.i64.wrap (((qe nn 0 2)*(qe nn 0 2)))) (y:=((qe nn 0 2)*(qe nn 0 2))) (rvk (by kernel_rfl)) (by first | rfl | (rw [IntKind.wrap_i64];omega))) ?_
   refine sw 85 (.int .i64 (((((qe nn 0 0)*(qe nn 0 0))+((qe nn 0 1)*(qe nn 0 1)))+((qe nn 0 2)*(qe nn 0 2))))) rfl (RunV.int (x:=IntKind.i64.wrap (((((qe nn 0 0)*(qe nn 0 0))+((qe nn 0 1)*(qe nn 0 1)))+((qe nn 0 2)*(qe nn 0 2))))) (y:=((((qe nn 0 0)*(qe nn 0 0))+((qe nn 0 1)*(qe nn 0 1)))+((qe nn 0 2)*(qe nn 0 2)))) (rvk (by kernel_rfl)) (by first | rfl | (rw [IntKind.wrap_i64];omega))) ?_
   have c9:((((((qe nn 0 0)*(qe nn 0 0))+((qe nn 0 1)*(qe nn 0 1)))+((qe nn 0 2)*(qe nn 0 2))) !=(1:Int)))=false:=(yg7 (i:=0) hlt (by omega))
   refine sw 86 (.bool false) rfl (RunV.bool (x:=(((((qe nn 0 0)*(qe nn 0 0))+((qe nn 0 1)*(qe nn 0 1)))+((qe nn 0 2)*(qe nn 0 2))) !=(1:Int))) (rvk (by kernel_rfl)) c9) ?_
   refine sv 87 (.bool false) ?_
   refine za0 ?_
   refine eJ _ _ ?_
   try clear eJ f7
   refine wp_cond_false rfl ?_
   refine wp_skip ?_
   refine eT _ _ ?_
   try clear eT fh
   refine rg [0,1,2] ?_
   refine sv 56 (.int .i64 0) ?_
   refine sv 57 (.int .i64 1) ?_
   refine sv 9 (.int .i64 1) ?_
   refine za0 ?_
   show Code.rounds _ _ _ _ _ _
   show Code.wp _ _ _ _ _
   refine wp_seq_k (fun e2 eD=>?_)
   refine wp_seq_k (fun fN d7=>?_)
   refine rg [0,1] ?_
   refine sv 54 (.int .i64 1) ?_
   refine sv 55 (.bool true) ?_
   refine za0 ?_
   refine d7 _ _ ?_
   try clear d7 fN
   refine wp_cond_true rfl ?_
   refine wp_skip ?_
   refine eD _ _ ?_
   try clear eD e2
   refine wp_seq_k (fun fY d6=>?_)
   refine wp_block ?_
   refine wp_seq_k (fun ff eB=>?_)
   refine rg [0,1,2,3,4,5,6,7,8,9,10] ?_
   refine sv 59 (.int .i64 1) ?_
   refine sv 60 (.pointer (some ⟨bv,0,none⟩)) ?_
   refine sv 61 (.pointer (some ⟨bv,12,none⟩)) ?_
   replace aL:=cE.lc (aL.gr cZ) bH
   refine sw 62 (.agg #[aJ,ak,av,aG,ah,az,ay,aI,aj,af,ax,aD]) rfl (rl 38 12 [aJ,ak,av,aG,ah,az,ay,aI,aj,af,ax,aD] aL) ?_
   refine se ?_
   have b9:=bV.kp.trans (bu.trans (a6.kp.trans (cO.kp.trans (cZ.kp.trans cN))))
   replace aU:=aU.kp b9
   replace aP:=aP.kp b9
   replace aS:=aS.kp b9
   refine ec 63 (zx0 (by omega) (by omega) (by omega) aU aP aS (by omega)) ?_
   rintro ge gh ⟨rfl,cW⟩
   refine ⟨_,rfl,?_⟩
   replace hB:=hB.trans cW
   simp only [p3,p4]
   refine sv 58 (.tuple #[(.agg #[(.int .i64 ((qe nn 1 0))),(.int .i64 ((qe nn 1 1))),(.int .i64 ((qe nn 1 2)))]),.int .i64 0]) ?_
   refine sv 64 (.agg #[(.int .i64 ((qe nn 1 0))),(.int .i64 ((qe nn 1 1))),(.int .i64 ((qe nn 1 2)))]) ?_
   refine sv 65 (.int .i64 0) ?_
   refine se ?_
   refine ea 101 #[.int .i64 0,.int .i64 0,.int .i64 0] 10 hB fun cg gv di bJ eV fV hB=>?_
   replace aL:=aL.gr cW
   have bP:=aL.ne eV
   simp only [p3,p4]
   refine se ?_
   have dG:=bJ
   refine es 101 0 (.agg #[(.int .i64 ((qe nn 1 0))),(.int .i64 ((qe nn 1 1))),(.int .i64 ((qe nn 1 2)))]) [(.int .i64 ((qe nn 1 0))),(.int .i64 ((qe nn 1 1))),(.int .i64 ((qe nn 1 2)))] #[(.int .i64 ((qe nn 1 0))),(.int .i64 ((qe nn 1 1))),(.int .i64 ((qe nn 1 2)))] bJ hB fV ⟨rfl,rfl,rfl,trivial⟩ fun gG cJ df bJ hB=>?_
   refine sv 11 (.int .i64 0) ?_
   refine za0 ?_
   refine eB _ _ ?_
   try clear eB ff
   refine wp_seq_k (fun fe eo=>?_)
   refine rg [0,1,2,3,4,5,6,7,8,9,10,11,12,13,14,15,16,17,18,19,20,21] ?_
   refine sv 66 (.int .i64 0) ?_
   refine sv 67 (.bool false) ?_
   refine sv 68 (.bool false) ?_
   refine sv 69 (.pointer (some ⟨cg,0,none⟩)) ?_
   refine sw 70 (.int .i64 ((qe nn 1 0))) rfl (rk 3 0 bJ) ?_
   refine sv 71 (.pointer (some ⟨cg,0,none⟩)) ?_
   refine sw 72 (.int .i64 ((qe nn 1 0))) rfl (rk 3 0 bJ) ?_
   refine sw 73 (.int .i64 (((qe nn 1 0)*(qe nn 1 0)))) rfl (RunV.int (x:=IntKind.i64.wrap (((qe nn 1 0)*(qe nn 1 0)))) (y:=((qe nn 1 0)*(qe nn 1 0))) (rvk (by kernel_rfl)) (by first | rfl | (rw [IntKind.wrap_i64];omega))) ?_
   refine sv 74 (.pointer (some ⟨cg,1,none⟩)) ?_
   refine sw 75 (.int .i64 ((qe nn 1 1))) rfl (rk 3 1 bJ) ?_
   refine sv 76 (.pointer (some ⟨cg,1,none⟩)) ?_
   refine sw 77 (.int .i64 ((qe nn 1 1))) rfl (rk 3 1 bJ) ?_
   refine sw 78 (.int .i64 (((qe nn 1 1)*(qe nn 1 1)))) rfl (RunV.int (x:=IntKind.i64.wrap (((qe nn 1 1)*(qe nn 1 1)))) (y:=((qe nn 1 1)*(qe nn 1 1))) (rvk (by kernel_rfl)) (by first | rfl | (rw [IntKind.wrap_i64];omega))) ?_
   refine sw 79 (.int .i64 ((((qe nn 1 0)*(qe nn 1 0))+((qe nn 1 1)*(qe nn 1 1))))) rfl (RunV.int (x:=IntKind.i64.wrap ((((qe nn 1 0)*(qe nn 1 0))+((qe nn 1 1)*(qe nn 1 1))))) (y:=(((qe nn 1 0)*(qe nn 1 0))+((qe nn 1 1)*(qe nn 1 1)))) (rvk (by kernel_rfl)) (by first | rfl | (rw [IntKind.wrap_i64];omega))) ?_
   refine sv 80 (.pointer (some ⟨cg,2,none⟩)) ?_
   refine sw 81 (.int .i64 ((qe nn 1 2))) rfl (rk 3 2 bJ) ?_
   refine sv 82 (.pointer (some ⟨cg,2,none⟩)) ?_
   refine sw 83 (.int .i64 ((qe nn 1 2))) rfl (rk 3 2 bJ) ?_
   refine sw 84 (.int .i64 (((qe nn 1 2)*(qe nn 1 2)))) rfl (RunV.int (x:=IntKind.i64.wrap (((qe nn 1 2)*(qe nn 1 2)))) (y:=((qe nn 1 2)*(qe nn 1 2))) (rvk (by kernel_rfl)) (by first | rfl | (rw [IntKind.wrap_i64];omega))) ?_
   refine sw 85 (.int .i64 (((((qe nn 1 0)*(qe nn 1 0))+((qe nn 1 1)*(qe nn 1 1)))+((qe nn 1 2)*(qe nn 1 2))))) rfl (RunV.int (x:=IntKind.i64.wrap (((((qe nn 1 0)*(qe nn 1 0))+((qe nn 1 1)*(qe nn 1 1)))+((qe nn 1 2)*(qe nn 1 2))))) (y:=((((qe nn 1 0)*(qe nn 1 0))+((qe nn 1 1)*(qe nn 1 1)))+((qe nn 1 2)*(qe nn 1 2)))) (rvk (by kernel_rfl)) (by first | rfl | (rw [IntKind.wrap_i64];omega))) ?_
   have dx:((((((qe nn 1 0)*(qe nn 1 0))+((qe nn 1 1)*(qe nn 1 1)))+((qe nn 1 2)*(qe nn 1 2))) !=(1:Int)))=false:=(yg7 (i:=1) hlt (by omega))
   refine sw 86 (.bool false) rfl (RunV.bool (x:=(((((qe nn 1 0)*(qe nn 1 0))+((qe nn 1 1)*(qe nn 1 1)))+((qe nn 1 2)*(qe nn 1 2))) !=(1:Int))) (rvk (by kernel_rfl)) dx) ?_
   refine sv 87 (.bool false) ?_
   refine za0 ?_
   refine eo _ _ ?_
   try clear eo fe
   refine wp_cond_false rfl ?_
   refine wp_skip ?_
   refine d6 _ _ ?_
   try clear d6 fY
   refine rg [0,1,2] ?_
   refine sv 56 (.int .i64 1) ?_
   refine sv 57 (.int .i64 2) ?_
   refine sv 9 (.int .i64 2) ?_
   refine za0 ?_
   show Code.rounds _ _ _ _ _ _
   show Code.wp _ _ _ _ _
   refine wp_seq_k (fun eY d1=>?_)
   refine wp_seq_k (fun e0 dX=>?_)
   refine rg [0,1] ?_
   refine sv 54 (.int .i64 2) ?_
   refine sv 55 (.bool true) ?_
   refine za0 ?_
   refine dX _ _ ?_
   try clear dX e0
   refine wp_cond_true rfl ?_
   refine wp_skip ?_
   refine d1 _ _ ?_
   try clear d1 eY
   refine wp_seq_k (fun fz eO=>?_)
   refine wp_block ?_
   refine wp_seq_k (fun f2 eR=>?_)
   refine rg [0,1,2,3,4,5,6,7,8,9,10] ?_
   refine sv 59 (.int .i64 2) ?_
   refine sv 60 (.pointer (some ⟨bv,0,none⟩)) ?_
   refine sv 61 (.pointer (some ⟨bv,24,none⟩)) ?_
   replace aL:=cJ.lc (aL.gr di) bP
   refine sw 62 (.agg #[aF,aw,aq,aH,ap,au,ae,aE,aC,ar,aB,al]) rfl (rl 38 24 [aF,aw,aq,aH,ap,au,ae,aE,aC,ar,aB,al] aL) ?_
   refine se ?_
   have b7:=bV.kp.trans (bu.trans (a6.kp.trans (cO.kp.trans (cZ.kp.trans (cN.trans (cW.kp.trans (di.kp.trans df)))))))
   replace aQ:=aQ.kp b7
   replace aT:=aT.kp b7
   replace aM:=aM.kp b7
   refine ec 63 (zx0 (by omega) (by omega) (by omega) aQ aT aM (by omega)) ?_
   rintro gz gO ⟨rfl,eN⟩
   refine ⟨_,rfl,?_⟩
   replace hB:=hB.trans eN
   simp only [p3,p4]
   refine sv 58 (.tuple #[(.agg #[(.int .i64 ((qe nn 2 0))),(.int .i64 ((qe nn 2 1))),(.int .i64 ((qe nn 2 2)))]),.int .i64 0]) ?_
   refine sv 64 (.agg #[(.int .i64 ((qe nn 2 0))),(.int .i64 ((qe nn 2 1))),(.int .i64 ((qe nn 2 2)))]) ?_
   refine sv 65 (.int .i64 0) ?_
   refine se ?_
   refine ea 101 #[.int .i64 0,.int .i64 0,.int .i64 0] 10 hB fun cm gq fL bG gP fc hB=>?_
   simp only [p3,p4]
   refine se ?_
   have dO:=bG
   refine es 101 0 (.agg #[(.int .i64 ((qe nn 2 0))),(.int .i64 ((qe nn 2 1))),(.int .i64 ((qe nn 2 2)))]) [(.int .i64 ((qe nn 2 0))),(.int .i64 ((qe nn 2 1))),(.int .i64 ((qe nn 2 2)))] #[(.int .i64 ((qe nn 2 0))),(.int .i64 ((qe nn 2 1))),(.int .i64 ((qe nn 2 2)))] bG hB fc ⟨rfl,rfl,rfl,trivial⟩ fun gA dm fs bG hB=>?_
   refine sv 11 (.int .i64 0) ?_
   refine za0 ?_
   refine eR _ _ ?_
   try clear eR f2
   refine wp_seq_k (fun dn cA=>?_)
   refine rg [0,1,2,3,4,5,6,7,8,9,10,11,12,13,14,15,16,17,18,19,20,21] ?_
   refine sv 66 (.int .i64 0) ?_
   refine sv 67 (.bool false) ?_
   refine sv 68 (.bool false) ?_
   refine sv 69 (.pointer (some ⟨cm,0,none⟩)) ?_
   refine sw 70 (.int .i64 ((qe nn 2 0))) rfl (rk 3 0 bG) ?_
   refine sv 71 (.pointer (some ⟨cm,0,none⟩)) ?_
   refine sw 72 (.int .i64 ((qe nn 2 0))) rfl (rk 3 0 bG) ?_
   refine sw 73 (.int .i64 (((qe nn 2 0)*(qe nn 2 0)))) rfl (RunV.int (x:=IntKind.i64.wrap (((qe nn 2 0)*(qe nn 2 0)))) (y:=((qe nn 2 0)*(qe nn 2 0))) (rvk (by kernel_rfl)) (by first | rfl | (rw [IntKind.wrap_i64];omega))) ?_
   refine sv 74 (.pointer (some ⟨cm,1,none⟩)) ?_
   refine sw 75 (.int .i64 ((qe nn 2 1))) rfl (rk 3 1 bG) ?_
   refine sv 76 (.pointer (some ⟨cm,1,none⟩)) ?_
   refine sw 77 (.int .i64 ((qe nn 2 1))) rfl (rk 3 1 bG) ?_
   refine sw 78 (.int .i64 (((qe nn 2 1)*(qe nn 2 1)))) rfl (RunV.int (x:=IntKind.i64.wrap (((qe nn 2 1)*(qe nn 2 1)))) (y:=((qe nn 2 1)*(qe nn 2 1))) (rvk (by kernel_rfl)) (by first | rfl | (rw [IntKind.wrap_i64];omega))) ?_
   refine sw 79 (.int .i64 ((((qe nn 2 0)*(qe nn 2 0))+((qe nn 2 1)*(qe nn 2 1))))) rfl (RunV.int (x:=IntKind.i64.wrap ((((qe nn 2 0)*(qe nn 2 0))+((qe nn 2 1)*(qe nn 2 1))))) (y:=(((qe nn 2 0)*(qe nn 2 0))+((qe nn 2 1)*(qe nn 2 1)))) (rvk (by kernel_rfl)) (by first | rfl | (rw [IntKind.wrap_i64];omega))) ?_
   refine sv 80 (.pointer (some ⟨cm,2,none⟩)) ?_
   refine sw 81 (.int .i64 ((qe nn 2 2))) rfl (rk 3 2 bG) ?_
   refine sv 82 (.pointer (some ⟨cm,2,none⟩)) ?_
   refine sw 83 (.int .i64 ((qe nn 2 2))) rfl (rk 3 2 bG) ?_
   refine sw 84 (.int .i64 (((qe nn 2 2)*(qe nn 2 2)))) rfl (RunV.int (x:=IntKind.i64.wrap (((qe nn 2 2)*(qe nn 2 2)))) (y:=((qe nn 2 2)*(qe nn 2 2))) (rvk (by kernel_rfl)) (by first | rfl | (rw [IntKind.wrap_i64];omega))) ?_
   refine sw 85 (.int .i64 (((((qe nn 2 0)*(qe nn 2 0))+((qe nn 2 1)*(qe nn 2 1)))+((qe nn 2 2)*(qe nn 2 2))))) rfl (RunV.int (x:=IntKind.i64.wrap (((((qe nn 2 0)*(qe nn 2 0))+((qe nn 2 1)*(qe nn 2 1)))+((qe nn 2 2)*(qe nn 2 2))))) (y:=((((qe nn 2 0)*(qe nn 2 0))+((qe nn 2 1)*(qe nn 2 1)))+((qe nn 2 2)*(qe nn 2 2)))) (rvk (by kernel_rfl)) (by first | rfl | (rw [IntKind.wrap_i64];omega))) ?_
   have cH:((((((qe nn 2 0)*(qe nn 2 0))+((qe nn 2 1)*(qe nn 2 1)))+((qe nn 2 2)*(qe nn 2 2))) !=(1:Int)))=false:=(yg7 (i:=2) hlt (by omega))
   refine sw 86 (.bool false) rfl (RunV.bool (x:=(((((qe nn 2 0)*(qe nn 2 0))+((qe nn 2 1)*(qe nn 2 1)))+((qe nn 2 2)*(qe nn 2 2))) !=(1:Int))) (rvk (by kernel_rfl)) cH) ?_
   refine sv 87 (.bool false) ?_
   refine za0 ?_
   refine cA _ _ ?_
   try clear cA dn
   refine wp_cond_false rfl ?_
   refine wp_skip ?_
   refine eO _ _ ?_
   try clear eO fz
   refine rg [0,1,2] ?_
   refine sv 56 (.int .i64 2) ?_
   refine sv 57 (.int .i64 3) ?_
   refine sv 9 (.int .i64 3) ?_
   refine za0 ?_
   show Code.rounds _ _ _ _ _ _
   show Code.wp _ _ _ _ _
   refine wp_seq_k (fun f8 fE=>?_)
   refine wp_seq_k (fun dd ct=>?_)
   refine rg [0,1] ?_
   refine sv 54 (.int .i64 3) ?_
   refine sv 55 (.bool false) ?_
   refine za0 ?_
   refine ct _ _ ?_
   try clear ct dd
   refine wp_cond_false rfl ?_
   refine wp_exit ?_
   simp only [Exit.then,Exit.inBlock,↓reduceIte]
   refine c7 _ _ ?_
   try clear c7 ep
   refine rg [0,1,2] ?_
   refine sv 23 (.int .i64 ((nn:Int))) ?_
   refine sw 24 (.int .i64 (((nn:Int)+1))) rfl (RunV.int (x:=IntKind.i64.wrap (((nn:Int)+1))) (y:=((nn:Int)+1)) (rvk (by kernel_rfl)) (by first | rfl | (rw [IntKind.wrap_i64];omega))) ?_
   refine sv 6 (.int .i64 (((nn:Int)+1))) ?_
   refine za0 ?_
   replace hs:=(((((((((hs.gr za8 a6).gr za8 cO).gr za8 cZ).kts za8 (cE.kts dN (by decide))).gr za8 cW).gr za8 di).kts za8 (cJ.kts dG (by decide))).gr za8 eN).gr za8 fL).kts za8 (dm.kts dO (by decide))
   refine eE (24 - (nn+1)) ⟨List.toArray ?l104,[]⟩ _ (by omega) ?_
   exact ⟨nn+1,(fun i=>List.getD ?l104 i undef),rfl,rfl,(by omega),hs,hB⟩
 ·refine wp_exit ?_
  simp only [Exit.then,Exit.inBlock,↓reduceIte]
  refine d4 _ _ ?_
  try clear d4 fC
  refine wp_seq_k (fun dq cV=>?_)
  obtain ⟨_,_,rfl,ad⟩:=hs.get (by decide) (getD_some (d:=((0,0,0,0):Int × Int × Int × Int)) (i:=ni) (xs:=quarters) (by rw [zb2];omega))
  obtain ⟨_,_,rfl,ac⟩:=hs.get (by decide) (getD_some (d:=((0,0,0,0):Int × Int × Int × Int)) (i:=nk) (xs:=quarters) (by rw [zb2];omega))
  have cT:=Below.size hB
  have bp:=Gr.drew dY
  replace hB:=hB.trans bp
  replace ad:=ad.gr bp
  replace ac:=ac.gr bp
  refine zj7 (fun w'=>AtV w' v6 (ni*4) [(.int .i64 (((quarters).getD ni (0,0,0,0)).1)),(.int .i64 (((quarters).getD ni (0,0,0,0)).2.1)),(.int .i64 (((quarters).getD ni (0,0,0,0)).2.2.1)),(.int .i64 (((quarters).getD ni (0,0,0,0)).2.2.2))]∧AtV w' v6 (nk*4) [(.int .i64 (((quarters).getD nk (0,0,0,0)).1)),(.int .i64 (((quarters).getD nk (0,0,0,0)).2.1)),(.int .i64 (((quarters).getD nk (0,0,0,0)).2.2.1)),(.int .i64 (((quarters).getD nk (0,0,0,0)).2.2.2))]) [(true,0),(true,1),(true,2),(true,3),(true,4),(true,7),(true,8),(true,9),(true,10),(true,11),(false,5),(true,6),(false,12),(true,13),(false,14),(true,15),(true,16),(true,17)] [⟨18,12,27,#[.int .i64 0,.int .i64 0,.int .i64 0,.int .i64 0,(.string ⟨([]:List UInt8).toArray⟩),(.string ⟨([]:List UInt8).toArray⟩),(.string ⟨([]:List UInt8).toArray⟩)]⟩] [(false,19),(true,20)] (by kernel_rfl) (by kernel_rfl) (by kernel_rfl) (by kernel_rfl) (by kernel_rfl) (by decide) (fun _ _ _ _ _ h=>h) (fun _ _ _ _ _ h=>h) (fun w' o h=>⟨AtV.gr h.1 (Gr.alloc w' o),AtV.gr h.2 (Gr.alloc w' o)⟩) ⟨ad,ac⟩ (by intro f hf;simp only [List.mem_cons,List.not_mem_nil,or_false] at hf;rcases hf with rfl<;>first | exact zq1 (z:=(.agg #[.int .i64 0,.int .i64 0,.int .i64 0,.int .i64 0,(.string ⟨([]:List UInt8).toArray⟩),(.string ⟨([]:List UInt8).toArray⟩),(.string ⟨([]:List UInt8).toArray⟩)])) (by kernel_rfl) rfl) ?_
  refine fv 89 v6 ?_
  refine fv 90 (.int .u8 (ii)) ?_
  refine fw 91 (.int .u8 ((ni:Int))) rfl (fun w' hS=>(RunV.int (x:=Int.tmod ii 24) (y:=(ni:Int)) (rvk (by kernel_rfl)) (by rw [Int.tmod_eq_emod_of_nonneg (by omega)];exact hni))) ?_
  refine fw 92 (adr v6 (ni*4)) rfl (fun w' hS=>(yp7 (e:=22) hs (by decide) ni (by rw [zb2];omega) _ .u8 _ _ rfl rfl rfl (by kernel_rfl) (by kernel_rfl))) ?_
  refine fw 93 (.agg #[(.int .i64 (((quarters).getD ni (0,0,0,0)).1)),(.int .i64 (((quarters).getD ni (0,0,0,0)).2.1)),(.int .i64 (((quarters).getD ni (0,0,0,0)).2.2.1)),(.int .i64 (((quarters).getD ni (0,0,0,0)).2.2.2))]) rfl (fun w' hS=>(zF7 [(.int .i64 (((quarters).getD ni (0,0,0,0)).1)),(.int .i64 (((quarters).getD ni (0,0,0,0)).2.1)),(.int .i64 (((quarters).getD ni (0,0,0,0)).2.2.1)),(.int .i64 (((quarters).getD ni (0,0,0,0)).2.2.2))] hS.1 _ _ rfl rfl (by kernel_rfl))) ?_
  refine fv 96 v6 ?_
  refine fv 97 (.int .u8 (kk)) ?_
  refine fw 98 (.int .u8 ((nk:Int))) rfl (fun w' hS=>(RunV.int (x:=Int.tmod kk 24) (y:=(nk:Int)) (rvk (by kernel_rfl)) (by rw [Int.tmod_eq_emod_of_nonneg (by omega)];exact hnk))) ?_
  refine fw 99 (adr v6 (nk*4)) rfl (fun w' hS=>(yp7 (e:=22) hs (by decide) nk (by rw [zb2];omega) _ .u8 _ _ rfl rfl rfl (by kernel_rfl) (by kernel_rfl))) ?_
  refine fw 100 (.agg #[(.int .i64 (((quarters).getD nk (0,0,0,0)).1)),(.int .i64 (((quarters).getD nk (0,0,0,0)).2.1)),(.int .i64 (((quarters).getD nk (0,0,0,0)).2.2.1)),(.int .i64 (((quarters).getD nk (0,0,0,0)).2.2.2))]) rfl (fun w' hS=>(zF7 [(.int .i64 (((quarters).getD nk (0,0,0,0)).1)),(.int .i64 (((quarters).getD nk (0,0,0,0)).2.1)),(.int .i64 (((quarters).getD nk (0,0,0,0)).2.2.1)),(.int .i64 (((quarters).getD nk (0,0,0,0)).2.2.2))] hS.2 _ _ rfl rfl (by kernel_rfl))) ?_
  refine zc2 rfl rfl (fun f4 bO _ dP cM=>?_)
  replace hB:=hB.trans bO
  refine ec 94 (zI1 _) ?_
  rintro e8 f9 ⟨rfl,bB⟩
  refine ⟨_,rfl,?_⟩
  replace hB:=hB.trans bB
  replace ad:=ad.gr (bO.trans bB)
  replace ac:=ac.gr (bO.trans bB)
  refine cM _ _ bB ⟨ad,ac⟩ ?_
  try clear cM dP
  simp only [p3,p4]
  refine fv 95 (.agg #[(.int .i64 (((quarters).getD ni (0,0,0,0)).1)),(.int .i64 (((quarters).getD ni (0,0,0,0)).2.1)),(.int .i64 (((quarters).getD ni (0,0,0,0)).2.2.1)),(.int .i64 (((quarters).getD ni (0,0,0,0)).2.2.2)),(.string ⟨([48]:List UInt8).toArray⟩),(.string ⟨([48]:List UInt8).toArray⟩),(.string ⟨([48]:List UInt8).toArray⟩)]) ?_
  refine zc2 rfl rfl (fun fq bF _ dI cF=>?_)
  replace hB:=hB.trans bF
  refine ec 101 (zI1 _) ?_
  rintro f0 eZ ⟨rfl,bz⟩
  refine ⟨_,rfl,?_⟩
  replace hB:=hB.trans bz
  replace ad:=ad.gr (bF.trans bz)
  replace ac:=ac.gr (bF.trans bz)
  refine cF _ _ bz ⟨ad,ac⟩ ?_
  try clear cF dI
  simp only [p3,p4]
  refine fv 102 (.agg #[(.int .i64 (((quarters).getD nk (0,0,0,0)).1)),(.int .i64 (((quarters).getD nk (0,0,0,0)).2.1)),(.int .i64 (((quarters).getD nk (0,0,0,0)).2.2.1)),(.int .i64 (((quarters).getD nk (0,0,0,0)).2.2.2)),(.string ⟨([48]:List UInt8).toArray⟩),(.string ⟨([48]:List UInt8).toArray⟩),(.string ⟨([48]:List UInt8).toArray⟩)]) ?_
  refine zc2 rfl rfl (fun fM bN _ dF cy=>?_)
  replace hB:=hB.trans bN
  refine ec 103 (qjoin (i:=ni) (k:=nk) (by omega) (by omega) _ (hm.gr hB) (ht.gr hB)) ?_
  rintro fT fg ⟨⟨mq,hmq,rfl⟩,bx⟩
  refine ⟨_,rfl,?_⟩
  replace hB:=hB.trans bx
  replace ad:=ad.gr (bN.trans bx)
  replace ac:=ac.gr (bN.trans bx)
  refine cy _ _ bx ⟨ad,ac⟩ ?_
  try clear cy dF
  simp only [p3,p4]
  refine fv 88 (.tuple #[(.agg #[(.int .i64 (((quarters).getD mq (0,0,0,0)).1)),(.int .i64 (((quarters).getD mq (0,0,0,0)).2.1)),(.int .i64 (((quarters).getD mq (0,0,0,0)).2.2.1)),(.int .i64 (((quarters).getD mq (0,0,0,0)).2.2.2)),(.string ⟨([48]:List UInt8).toArray⟩),(.string ⟨([48]:List UInt8).toArray⟩),(.string ⟨([48]:List UInt8).toArray⟩)]),.int .i64 0]) ?_
  refine fv 104 (.agg #[(.int .i64 (((quarters).getD mq (0,0,0,0)).1)),(.int .i64 (((quarters).getD mq (0,0,0,0)).2.1)),(.int .i64 (((quarters).getD mq (0,0,0,0)).2.2.1)),(.int .i64 (((quarters).getD mq (0,0,0,0)).2.2.2)),(.string ⟨([48]:List UInt8).toArray⟩),(.string ⟨([48]:List UInt8).toArray⟩),(.string ⟨([48]:List UInt8).toArray⟩)]) ?_
  refine fv 105 (.int .i64 0) ?_
  refine zU8 (fun dC cB _=>?_)
  replace hB:=hB.trans cB
  refine zV6 (fun bo (aV:Lc dC bo #[.int .i64 0,.int .i64 0,.int .i64 0,.int .i64 0,(.string ⟨([]:List UInt8).toArray⟩),(.string ⟨([]:List UInt8).toArray⟩),(.string ⟨([]:List UInt8).toArray⟩)] 27) q116=>?_)
  replace q116:=Nat.le_trans cT q116
  simp only [zB4,p3,p4]
  refine oe ?_
  have co:=aV
  refine es 27 0 (.agg #[(.int .i64 (((quarters).getD mq (0,0,0,0)).1)),(.int .i64 (((quarters).getD mq (0,0,0,0)).2.1)),(.int .i64 (((quarters).getD mq (0,0,0,0)).2.2.1)),(.int .i64 (((quarters).getD mq (0,0,0,0)).2.2.2)),(.string ⟨([48]:List UInt8).toArray⟩),(.string ⟨([48]:List UInt8).toArray⟩),(.string ⟨([48]:List UInt8).toArray⟩)]) [(.int .i64 (((quarters).getD mq (0,0,0,0)).1)),(.int .i64 (((quarters).getD mq (0,0,0,0)).2.1)),(.int .i64 (((quarters).getD mq (0,0,0,0)).2.2.1)),(.int .i64 (((quarters).getD mq (0,0,0,0)).2.2.2)),(.string ⟨([48]:List UInt8).toArray⟩),(.string ⟨([48]:List UInt8).toArray⟩),(.string ⟨([48]:List UInt8).toArray⟩)] #[(.int .i64 (((quarters).getD mq (0,0,0,0)).1)),(.int .i64 (((quarters).getD mq (0,0,0,0)).2.1)),(.int .i64 (((quarters).getD mq (0,0,0,0)).2.2.1)),(.int .i64 (((quarters).getD mq (0,0,0,0)).2.2.2)),(.string ⟨([48]:List UInt8).toArray⟩),(.string ⟨([48]:List UInt8).toArray⟩),(.string ⟨([48]:List UInt8).toArray⟩)] aV hB q116 ⟨rfl,rfl,rfl,rfl,rfl,rfl,rfl,trivial⟩ fun fb cq dV aV hB=>?_
  replace hs:=((((((((hs.gr za8 bp).gr za8 bO).gr za8 bB).gr za8 bF).gr za8 bz).gr za8 bN).gr za8 bx).gr za8 cB).kts za8 (cq.kts co (by decide))
  have ad:=(atq4 (n:=ni) hs (by rw [zb2];omega))
  have ac:=(atq4 (n:=nk) hs (by rw [zb2];omega))
  refine ⟨⟨ad,ac⟩,?_⟩
  refine ov 13 (.int .i64 0) ?_
  refine zb1 ?_
  refine cV _ _ ?_
  try clear cV dq
  refine wp_seq_k (fun fI f5=>?_)
  refine wp_seq_k (fun dL cK=>?_)
  refine rg [0] ?_
  refine sv 14 (.int .i64 0) ?_
  refine za0 ?_
  refine cK _ _ ?_
  try clear cK dL
  refine wp_block ?_
  refine zg2 (a:=⟨List.toArray ?l121,[]⟩) (fun n a w'=>∃ (nr:Nat) (aa:Nat→Value),24 - nr=n∧a=⟨[(.int .u8 (ii)),(.int .u8 (kk)),undef,undef,(aa 4),v6,(.int .i64 ((nn:Int))),(ab 7),(ab 8),(ab 9),(ab 10),(ab 11),(.pointer (some ⟨bo,0,none⟩)),.int .i64 0,(.int .i64 ((nr:Int))),(aa 15),.bool false,(aa 17),(aa 18),(aa 19),.bool false,(aa 21),(.bool (decide ((nn:Int)<(24:Int)))),(aa 23),(aa 24),(aa 25),(aa 26),(aa 27),(aa 28),(aa 29),(aa 30),(aa 31),(aa 32),(aa 33),(aa 34),(aa 35),(aa 36),(aa 37),(aa 38),(aa 39),(aa 40),(aa 41),(aa 42),(aa 43),(aa 44),(aa 45),(aa 46),(aa 47),(aa 48),(aa 49),(aa 50),(aa 51),(aa 52),(ab 53),(aa 54),(ab 55),(aa 56),(aa 57),(aa 58),(aa 59),(aa 60),(aa 61),(aa 62),(aa 63),(aa 64),(aa 65),(aa 66),(aa 67),(aa 68),(aa 69),(aa 70),(aa 71),(aa 72),(aa 73),(aa 74),(aa 75),(aa 76),(aa 77),(aa 78),(aa 79),(aa 80),(aa 81),(aa 82),(aa 83),(aa 84),(aa 85),(aa 86),(ab 87),(aa 88),(aa 89),(aa 90),(aa 91),(aa 92),(aa 93),(aa 94),(aa 95),(aa 96),(aa 97),(aa 98),(aa 99),(aa 100),(aa 101),(aa 102),(aa 103),(aa 104),(aa 105),(aa 106),(aa 107),(aa 108),(aa 109),(aa 110),(aa 111),(aa 112),(aa 113),(aa 114),(aa 115),(aa 116),(aa 117),(aa 118),(aa 119),(aa 120),(aa 121),(aa 122),(aa 123),(aa 124)].toArray,[]⟩∧nr≤mq∧Sl EQ4 22 4 w' v6 quarters∧Lc w' bo #[(.int .i64 (((quarters).getD mq (0,0,0,0)).1)),(.int .i64 (((quarters).getD mq (0,0,0,0)).2.1)),(.int .i64 (((quarters).getD mq (0,0,0,0)).2.2.1)),(.int .i64 (((quarters).getD mq (0,0,0,0)).2.2.2)),(.string ⟨([48]:List UInt8).toArray⟩),(.string ⟨([48]:List UInt8).toArray⟩),(.string ⟨([48]:List UInt8).toArray⟩)] 27∧Gr w w') (24 - 0) ?_ ?_
  ·exact ⟨0,(fun i=>List.getD ?l121 i undef),rfl,rfl,(by omega),hs,aV,hB⟩
  rintro fm fH cL ⟨nr,aa,rfl,rfl,hnr,hs,aV,hB⟩ fX dp
  refine wp_seq_k (fun dK cn=>?_)
  refine wp_seq_k (fun dJ cS=>?_)
  refine rg [0,1] ?_
  refine sv 106 (.int .i64 ((nr:Int))) ?_
  refine sv 107 (.bool (decide ((nr:Int)<(24:Int)))) ?_
  refine za0 ?_
  refine cS _ _ ?_
  try clear cS dJ
  refine wp_cond_split (t:=decide ((nr:Int)<(24:Int))) rfl (fun bA=>?_) (fun bA=>?_)
  ·have hlr:nr<24:=by have:=of_decide_eq_true bA;omega
   refine wp_skip ?_
   refine cn _ _ ?_
   try clear cn dK
   refine wp_seq_k (fun dw cD=>?_)
   refine wp_block ?_
   refine wp_seq_k (fun da cC=>?_)
   obtain ⟨_,_,rfl,bw⟩:=hs.get (by decide) (getD_some (d:=((0,0,0,0):Int × Int × Int × Int)) (i:=nr) (xs:=quarters) (by rw [zb2];omega))
   have bt:=Gr.drew cL
   replace hB:=hB.trans bt
   replace aV:=aV.gr bt
   replace bw:=bw.gr bt
   refine za2 (fun w'=>Lc w' bo #[(.int .i64 (((quarters).getD mq (0,0,0,0)).1)),(.int .i64 (((quarters).getD mq (0,0,0,0)).2.1)),(.int .i64 (((quarters).getD mq (0,0,0,0)).2.2.1)),(.int .i64 (((quarters).getD mq (0,0,0,0)).2.2.2)),(.string ⟨([48]:List UInt8).toArray⟩),(.string ⟨([48]:List UInt8).toArray⟩),(.string ⟨([48]:List UInt8).toArray⟩)] 27∧AtV w' v6 (nr*4) [(.int .i64 (((quarters).getD nr (0,0,0,0)).1)),(.int .i64 (((quarters).getD nr (0,0,0,0)).2.1)),(.int .i64 (((quarters).getD nr (0,0,0,0)).2.2.1)),(.int .i64 (((quarters).getD nr (0,0,0,0)).2.2.2))]) [(true,0),(true,1),(true,2),(true,3),(true,4),(true,5),(true,6)] (by kernel_rfl) (by kernel_rfl) (by kernel_rfl) (by decide) (fun _ _ _ _ _ h=>h) ⟨aV,bw⟩ ?_
   refine ov 110 (.pointer (some ⟨bo,0,none⟩)) ?_
   refine ow 111 (.agg #[(.int .i64 (((quarters).getD mq (0,0,0,0)).1)),(.int .i64 (((quarters).getD mq (0,0,0,0)).2.1)),(.int .i64 (((quarters).getD mq (0,0,0,0)).2.2.1)),(.int .i64 (((quarters).getD mq (0,0,0,0)).2.2.2))]) rfl (fun w' hS=>(rl 22 0 [(.int .i64 (((quarters).getD mq (0,0,0,0)).1)),(.int .i64 (((quarters).getD mq (0,0,0,0)).2.1)),(.int .i64 (((quarters).getD mq (0,0,0,0)).2.2.1)),(.int .i64 (((quarters).getD mq (0,0,0,0)).2.2.2))] hS.1)) ?_
   refine ov 112 v6 ?_
   refine ov 113 (.int .i64 ((nr:Int))) ?_
   refine ow 114 (adr v6 (nr*4)) rfl (fun w' hS=>(zS2 (e:=22) hs (by decide) nr (by rw [zb2];omega) _ _ _ rfl rfl rfl (by kernel_rfl) (by kernel_rfl))) ?_
   refine ow 115 (.agg #[(.int .i64 (((quarters).getD nr (0,0,0,0)).1)),(.int .i64 (((quarters).getD nr (0,0,0,0)).2.1)),(.int .i64 (((quarters).getD nr (0,0,0,0)).2.2.1)),(.int .i64 (((quarters).getD nr (0,0,0,0)).2.2.2))]) rfl (fun w' hS=>(zF7 [(.int .i64 (((quarters).getD nr (0,0,0,0)).1)),(.int .i64 (((quarters).getD nr (0,0,0,0)).2.1)),(.int .i64 (((quarters).getD nr (0,0,0,0)).2.2.1)),(.int .i64 (((quarters).getD nr (0,0,0,0)).2.2.2))] hS.2 _ _ rfl rfl (by kernel_rfl))) ?_
   refine ow 116 (.bool ((((quarters).getD mq (0,0,0,0)).1==((quarters).getD nr (0,0,0,0)).1&&((quarters).getD mq (0,0,0,0)).2.1==((quarters).getD nr (0,0,0,0)).2.1&&((quarters).getD mq (0,0,0,0)).2.2.1==((quarters).getD nr (0,0,0,0)).2.2.1&&((quarters).getD mq (0,0,0,0)).2.2.2==((quarters).getD nr (0,0,0,0)).2.2.2))) rfl (fun w' hS=>(zL4 22 22 3 (k:=.i64) _ _ [((quarters).getD mq (0,0,0,0)).1,((quarters).getD mq (0,0,0,0)).2.1,((quarters).getD mq (0,0,0,0)).2.2.1,((quarters).getD mq (0,0,0,0)).2.2.2] [((quarters).getD nr (0,0,0,0)).1,((quarters).getD nr (0,0,0,0)).2.1,((quarters).getD nr (0,0,0,0)).2.2.1,((quarters).getD nr (0,0,0,0)).2.2.2] rfl rfl rfl (by kernel_rfl) (by kernel_rfl) (by kernel_rfl))) ?_
   refine zb1 ?_
   refine cC _ _ ?_
   try clear cC da
   refine wp_cond_split (t:=(((quarters).getD mq (0,0,0,0)).1==((quarters).getD nr (0,0,0,0)).1&&((quarters).getD mq (0,0,0,0)).2.1==((quarters).getD nr (0,0,0,0)).2.1&&((quarters).getD mq (0,0,0,0)).2.2.1==((quarters).getD nr (0,0,0,0)).2.2.1&&((quarters).getD mq (0,0,0,0)).2.2.2==((quarters).getD nr (0,0,0,0)).2.2.2)) rfl (fun bZ=>?_) (fun bZ=>?_)
   ·refine wp_seq_k (fun dQ cx=>?_)
    have b4:=Gr.drew (cL.drew)
    replace hB:=hB.trans b4
    replace aV:=aV.gr b4
    refine za2 (fun w'=>Lc w' bo #[(.int .i64 (((quarters).getD mq (0,0,0,0)).1)),(.int .i64 (((quarters).getD mq (0,0,0,0)).2.1)),(.int .i64 (((quarters).getD mq (0,0,0,0)).2.2.1)),(.int .i64 (((quarters).getD mq (0,0,0,0)).2.2.2)),(.string ⟨([48]:List UInt8).toArray⟩),(.string ⟨([48]:List UInt8).toArray⟩),(.string ⟨([48]:List UInt8).toArray⟩)] 27) [(true,0),(true,1),(true,2),(true,3),(true,4),(false,5),(true,6),(true,7),(true,8)] (by kernel_rfl) (by kernel_rfl) (by kernel_rfl) (by decide) (fun _ _ _ _ _ h=>h) aV ?_
    refine ov 117 (.int .i64 0) ?_
    refine ov 118 (.bool true) ?_
    refine ov 119 (.bool true) ?_
    refine ov 120 (.pointer (some ⟨bo,4,none⟩)) ?_
    refine ow 121 (.agg #[(.string ⟨([48]:List UInt8).toArray⟩),(.string ⟨([48]:List UInt8).toArray⟩),(.string ⟨([48]:List UInt8).toArray⟩)]) rfl (fun w' hS=>(rl 25 4 [(.string ⟨([48]:List UInt8).toArray⟩),(.string ⟨([48]:List UInt8).toArray⟩),(.string ⟨([48]:List UInt8).toArray⟩)] hS)) ?_
    refine oe ?_
    refine ec 122 (zI1 _) ?_
    rintro ft fB ⟨rfl,cu⟩
    refine ⟨_,rfl,?_⟩
    replace hB:=hB.trans cu
    replace aV:=aV.gr cu
    refine ⟨aV,?_⟩
    simp only [p3,p4]
    refine ov 123 (.bool true) ?_
    refine ov 124 (.bool true) ?_
    refine ov 4 (.bool true) ?_
    refine zb1 ?_
    refine cx _ _ ?_
    try clear cx dQ
    refine wp_ret ?_
    simp only [Exit.then,Exit.inBlock]
    refine bodyPost_ret (v:=(.bool true)) (za7 rfl rfl) rfl ⟨?_,hB⟩
    exact rfl
   ·have hne:nr≠mq:=by rintro rfl;simp at bZ
    refine wp_skip ?_
    refine cD _ _ ?_
    try clear cD dw
    refine rg [0,1,2] ?_
    refine sv 108 (.int .i64 ((nr:Int))) ?_
    refine sw 109 (.int .i64 (((nr:Int)+1))) rfl (RunV.int (x:=IntKind.i64.wrap (((nr:Int)+1))) (y:=((nr:Int)+1)) (rvk (by kernel_rfl)) (by first | rfl | (rw [IntKind.wrap_i64];omega))) ?_
    refine sv 14 (.int .i64 (((nr:Int)+1))) ?_
    refine za0 ?_
    replace hs:=hs.gr za8 bt
    refine dp (24 - (nr+1)) ⟨List.toArray ?l138,[]⟩ _ (by omega) ?_
    exact ⟨nr+1,(fun i=>List.getD ?l138 i undef),rfl,rfl,(by omega),hs,aV,hB⟩
  ·exfalso;have:=of_decide_eq_false bA;omega

theorem zD0 (ii kk:Int) (jii:0≤ii∧ii≤255) (jkk:0≤kk∧kk≤255) (w:World) (ht:Tab w) (hm:Mx w):
  Calls Tryz.prog 10 #[.int .u8 ii,.int .u8 kk] w fun e w'=>e=.returned (.bool true)∧Gr w w':=
 mquart_q ii kk jii jkk w ht hm
end Go.Proofs.YtaldbfflkpgfoaaGreatDoor
namespace Go.Proofs.YtaldbfflkpgfoaaGreatDoor
open Go.ChangeShapes Go.WideShapes Go.ChangeAt Go.RowKit

theorem zr5 {W : World} (h : laidMetH Tryz.prog Rows.motionQuartersRow.laid W) : Tab W :=
 Lib.tabIs_of_head (rest := _) (g := 1) (t := 254) (e := 160) (n := 20) (by kernel_rfl) (by kernel_rfl) (by kernel_rfl) (by kernel_rfl) (by kernel_rfl) (by kernel_rfl) ((show laidMet Tryz.prog Rows.motionQuartersRow.laid W from (MakeChecks.laidMetH_plain _ _ _ (by kernel_rfl)) ▸ h).tail.tail)
theorem zo7 {W : World} (h : W.ShapedOpen Tryz.prog) : Mx W :=
 Go.Proofs.cell_of_shapedOpen_int (zero := #[.int .i64 0]) (g := 0) (t := 3) h (of_decide_eq_true (by kernel_rfl)) (by kernel_rfl) rfl (by kernel_rfl) (by kernel_rfl) Tryz.underlying3
set_option maxRecDepth 100000 in
theorem zl6 (H : Type) (enc : TypeId × Value → H) (W : World) (base : Nat) (args : Array Value) (ds gs : List (DataW H)) (before : List MemPlace)
  (hval : ∀ (j : Nat) t v, Tryz.f10.params[j]? = some t → args[j]? = some v → Value.okWide Tryz.prog W .any base t v)
  (hW : DataW.Whole enc Tryz.prog Tryz.f10.params.toList Rows.motionQuartersSpec.vars false W args.toList ds gs before) (hL : laidMetH Tryz.prog Rows.motionQuartersRow.laid W) (hsh : W.ShapedOpen Tryz.prog) :
  Calls Tryz.prog 10 args W fun e W' => ∃ v, e = .returned v ∧ Rows.motionQuartersSpec.post enc Tryz.prog Tryz.f10 false true false false W args v W' := by
 have hW' := hW
 obtain ⟨p, q, ae, hV, rfl, hfz, hnd⟩ := hW
 have hA : DataW.TrodAll enc Tryz.prog W 0 (fun _ => true) true Tryz.f10.params.toList args.toList ds p := ae
 rw [Tryz.params10] at hA hval
 obtain ⟨v0, ah, d0, af, p0, q0, hargs, rfl, rfl, h0, r0⟩ := trodAll_cons hA
 obtain ⟨v1, ai, d1, aj, p1, q1, rfl, rfl, rfl, h1, r1⟩ := trodAll_cons r0
 obtain ⟨rfl, rfl, rfl⟩ := trodAll_nil r1
 obtain rfl : args = #[v0, v1] := by cases args; simp_all
 obtain ⟨rfl, rfl⟩ := trodVars_none hV
 obtain ⟨ac, rfl, ab⟩ := zQ6 (k := .u8) (by kernel_rfl) (hval 0 5 v0 rfl rfl)
 obtain ⟨ad, rfl, aa⟩ := zQ6 (k := .u8) (by kernel_rfl) (hval 1 5 v1 rfl rfl)
 refine (zD0 ac ad (has_u8 ab) (has_u8 aa)  W (zr5 hL) (zo7 hsh)).mono fun e W' ⟨he, hg⟩ => ?_
 subst he
 exact ⟨_, rfl, law_post (tb := 4) laidOut (by kernel_rfl) (by kernel_rfl) (by kernel_rfl) rfl hW' rfl hg⟩
noncomputable def zf0 (os : Os) : World := World.laidAll Tryz.prog os Rows.motionQuartersRow.laid
theorem zu1 (os : Os) : laidMet Tryz.prog Rows.motionQuartersRow.laid ((zf0 os).forCall (fun _ _ => 0) ⟨#[], #[.int .u8 0, .int .u8 0], []⟩).memory :=
 laidMet_laidAll _ (by kernel_rfl) (by kernel_rfl)
theorem zr6 (os : Os) {H : Type} (enc : TypeId × Value → H) : ∃ places, DataW.whole enc Tryz.prog ((zf0 os).forCall (fun _ _ => 0) ⟨#[], #[.int .u8 0, .int .u8 0], []⟩).memory Tryz.f10.params.toList Rows.motionQuartersSpec.vars false (#[.int .u8 0, .int .u8 0] : Array Value).toList 8 = some ([.lit (.int .u8 0), .lit (.int .u8 0)], [], places) :=
 ⟨[], by kernel_rfl⟩
set_option maxRecDepth 100000 in
theorem zo8 (os : Os) (started : os.Started) (H : Type) (enc : TypeId × Value → H) (F : Stop.Interp) :
  ReturnsInHanded {} Tryz.checked os 10 .any ((OpenSpec.ofChange Rows.motionQuartersSpec).preRow enc Tryz.prog Tryz.f10 Rows.motionQuartersRow.domain false Rows.motionQuartersRow.laid) (((OpenSpec.ofChange Rows.motionQuartersSpec).at F).post enc Tryz.prog Tryz.f10 false true false false) := by
 obtain ⟨places, hx⟩ := zr6 os enc
 refine returnsInHanded_of_row (C := Tryz.checked) (s := OpenSpec.ofChange Rows.motionQuartersSpec) own started (by kernel_rfl) Tryz.func10
  (zI2 (enc := enc) (C := Tryz.checked) false (zf0 os) #[.int .u8 0, .int .u8 0] (World.laidAll_os _ _ _) (World.shaped_of_ZipB (by kernel_rfl) (by kernel_rfl)) (by kernel_rfl)
   (OpenSpec.preRow_of_cond 8 hx (by kernel_rfl) (fun k hk => by cases hk) (by kernel_rfl) (by rw [MakeChecks.laidMetH_plain _ _ _ (by kernel_rfl)]; exact zu1 os))) ?_
 intro W base args ds gs before hval hW _ _ _ hL hsh _
 exact zl6 H enc W base args ds gs before hval hW hL hsh
theorem zs4 : Rows.MotionQuartersSaid :=
 OpenClaim.holds_of_cond 10 Tryz.f10 rfl rfl rfl rfl rfl rfl rfl ⟨rfl, rfl, rfl, rfl, rfl⟩ rfl rfl rfl rfl rfl (by kernel_rfl) Tryz.func10 (by kernel_rfl)
  (of_decide_eq_true (by kernel_rfl)) (by unfold Func.isWrapper; first | (rw [if_pos (by decide +kernel)]; kernel_rfl) | (rw [if_neg (by decide +kernel)]; exact ⟨rfl, rfl⟩))
  (fun os started H enc _ F => by rw [OpenClaim.pre_eq_preRow]; exact zo8 os started H enc F)
theorem zr7 (f : FuncId) (fn : Func) (hf : Tryz.pinned.checked.prog.funcNamed "dowel/dowellaw07.MotionQuarters" = some f) (hfn : Tryz.pinned.checked.prog.funcs[f]? = some fn) :
  true = Tryz.pinned.checked.prog.looks [] ∧ ∀ (j : Nat) t, fn.params[j]? = some t → Tryz.pinned.checked.prog.wantsStandIn t = false := by
 obtain rfl : f = 10 := Option.some.inj ((show Tryz.prog.funcNamed "dowel/dowellaw07.MotionQuarters" = some 10 by kernel_rfl).symm.trans hf) |>.symm
 obtain rfl : fn = Tryz.f10 := (Option.some.inj (Tryz.func10.symm.trans hfn)).symm
 refine ⟨by kernel_rfl, fun j t ht => ?_⟩
 rw [Tryz.params10] at ht
 have hm := Array.mem_of_getElem? ht
 have hall : (#[5, 5] : Array TypeId).toList.all (fun t => !Tryz.prog.wantsStandIn t) = true := by kernel_rfl
 have := List.all_eq_true.1 hall t (Array.mem_toList_iff.2 hm)
 have h3 : Tryz.prog.wantsStandIn t = false := by simpa using this
 exact h3
theorem motionQuarters_card : Rows.MotionQuartersCardSaid :=
 Claim7.holds_tied_plain_at .later [] _ _ _ _ zs4 (fun _ h => by cases h) (by kernel_rfl) (fun _ h => by cases h) motionQuarters_row_tie rfl ⟨rfl, rfl⟩ (by kernel_rfl) rfl zr7 (by kernel_rfl)
end Go.Proofs.YtaldbfflkpgfoaaGreatDoor
