/- Joined of: Gen160, Gen165, Lk, Gen166, Lm, Gen167. -/
import Derived.Test.YtepgkcimmdmgcaaGreatDoorPartD
import Derived.Test.YtepgkcimmdmgcaaGreatDoorPartC
namespace Go.Proofs.YtepgkcimmdmgcaaGreatDoor
open Go.RowKit

set_option maxRecDepth 100000 in
set_option maxHeartbeats 4000000 in
theorem f5_make_p {k m:Nat} (x y:Int) (hx:Sz k x) (hy:Sz m y) (_hy0:0<y) (_hk:k+m≤60000) (w:World):
    Calls Tryz.prog 91 #[(.string ⟨(Lib.itoa (x):List UInt8).toArray⟩),(.string ⟨(Lib.itoa (y):List UInt8).toArray⟩)] w fun e w'=>e=.returned (.agg #[.string ⟨(Lib.itoa (Rat.divInt x y).num).toArray⟩,.string ⟨(Lib.itoa ((Rat.divInt x y).den:Int)).toArray⟩])∧Gr w w':=by
 have hs:decide (sgn y<0)=false:=by rw [sgn_lt];simp;omega
 have h0:(0:Int)<y:=by omega
 have hgp:=(divInt_parts (N:=x) h0).2.2
 go_enter Tryz.func91,Tryz.ntmps91
 have hB:=Gr.refl w
 refine wp_seq_k (fun K1 k1=>?_)
 refine rg [0] ?_
 refine se ?_
 refine ea 84 #[(.string ⟨([]:List UInt8).toArray⟩),(.string ⟨([]:List UInt8).toArray⟩)] 4 hB fun b2 w2 g2 L2 o2 q2 hB=>?_
 simp only [p3,p4]
 refine sq_nil ?_
 refine k1 _ _ ?_
 try clear k1 K1
 refine wp_seq_k (fun K3 k3=>?_)
 refine wp_seq_k (fun K4 k4=>?_)
 refine rg [0,1,2] ?_
 refine sv 6 (.string ⟨(Lib.itoa (y):List UInt8).toArray⟩) ?_
 refine se ?_
 refine ec 7 (r1_sign_i (y) _) ?_
 rintro e5 w5 ⟨rfl,g5⟩
 refine ⟨_,rfl,?_⟩
 replace hB:=hB.trans g5
 simp only [p3,p4]
 refine sw 8 (.bool false) rfl (RunV.bool (x:=decide (sgn (y)<(0:Int))) (rvk (by kernel_rfl)) hs) ?_
 refine sq_nil ?_
 refine k4 _ _ ?_
 try clear k4 K4
 refine wp_cond_false rfl ?_
 refine wp_skip ?_
 refine k3 _ _ ?_
 try clear k3 K3
 refine wp_seq_k (fun K6 k6=>?_)
 refine rg [0,1,2,3] ?_
 refine sv 13 (.string ⟨(Lib.itoa (x):List UInt8).toArray⟩) ?_
 refine sv 14 (.string ⟨(Lib.itoa (y):List UInt8).toArray⟩) ?_
 refine se ?_
 refine ec 15 (r1_gcd (x) (y) hx hy (by omega) _) ?_
 rintro e7 w7 ⟨rfl,g7⟩
 refine ⟨_,rfl,?_⟩
 replace hB:=hB.trans g7
 simp only [p3,p4]
 refine sv 5 (.string ⟨(Lib.itoa ((Int.gcd (x) (y):Int)):List UInt8).toArray⟩) ?_
 refine sq_nil ?_
 refine k6 _ _ ?_
 try clear k6 K6
 refine wp_seq_k (fun K8 k8=>?_)
 refine rg [0,1,2,3,4,5,6] ?_
 refine sv 17 (.string ⟨(Lib.itoa (x):List UInt8).toArray⟩) ?_
 refine sv 18 (.string ⟨(Lib.itoa ((Int.gcd (x) (y):Int)):List UInt8).toArray⟩) ?_
 refine se ?_
 refine ec 19 (r1_divmod (x) ((Int.gcd (x) (y):Int)) hx (sz_gcd2 hx hy) hgp (by omega) _) ?_
 rintro e9 w9 ⟨rfl,g9⟩
 refine ⟨_,rfl,?_⟩
 replace hB:=hB.trans g9
 simp only [p3,p4]
 refine sv 16 (.tuple #[(.string ⟨(Lib.itoa (x/(Int.gcd (x) (y):Int)):List UInt8).toArray⟩),(.string ⟨(Lib.itoa (x % (Int.gcd (x) (y):Int)):List UInt8).toArray⟩)]) ?_
 refine sv 20 (.string ⟨(Lib.itoa (x/(Int.gcd (x) (y):Int)):List UInt8).toArray⟩) ?_
 refine sv 21 (.string ⟨(Lib.itoa (x % (Int.gcd (x) (y):Int)):List UInt8).toArray⟩) ?_
 refine sv 0 (.string ⟨(Lib.itoa (x/(Int.gcd (x) (y):Int)):List UInt8).toArray⟩) ?_
 refine sq_nil ?_
 refine k8 _ _ ?_
 try clear k8 K8
 refine wp_seq_k (fun K10 k10=>?_)
 refine rg [0,1,2,3,4,5,6] ?_
 refine sv 23 (.string ⟨(Lib.itoa (y):List UInt8).toArray⟩) ?_
 refine sv 24 (.string ⟨(Lib.itoa ((Int.gcd (x) (y):Int)):List UInt8).toArray⟩) ?_
 refine se ?_
 refine ec 25 (r1_divmod (y) ((Int.gcd (x) (y):Int)) hy (sz_gcd2 hx hy) hgp (by omega) _) ?_
 rintro e11 w11 ⟨rfl,g11⟩
 refine ⟨_,rfl,?_⟩
 replace hB:=hB.trans g11
 simp only [p3,p4]
 refine sv 22 (.tuple #[(.string ⟨(Lib.itoa (y/(Int.gcd (x) (y):Int)):List UInt8).toArray⟩),(.string ⟨(Lib.itoa (y % (Int.gcd (x) (y):Int)):List UInt8).toArray⟩)]) ?_
 refine sv 26 (.string ⟨(Lib.itoa (y/(Int.gcd (x) (y):Int)):List UInt8).toArray⟩) ?_
 refine sv 27 (.string ⟨(Lib.itoa (y % (Int.gcd (x) (y):Int)):List UInt8).toArray⟩) ?_
 refine sv 1 (.string ⟨(Lib.itoa (y/(Int.gcd (x) (y):Int)):List UInt8).toArray⟩) ?_
 refine sq_nil ?_
 refine k10 _ _ ?_
 try clear k10 K10
 refine wp_seq_k (fun K12 k12=>?_)
 refine rg [0,1,2,3] ?_
 refine sv 28 (.string ⟨(Lib.itoa (x/(Int.gcd (x) (y):Int)):List UInt8).toArray⟩) ?_
 refine sv 29 (.string ⟨(Lib.itoa (y/(Int.gcd (x) (y):Int)):List UInt8).toArray⟩) ?_
 refine sv 30 (.agg #[(.string ⟨(Lib.itoa (x/(Int.gcd (x) (y):Int)):List UInt8).toArray⟩),(.string ⟨(Lib.itoa (y/(Int.gcd (x) (y):Int)):List UInt8).toArray⟩)]) ?_
 refine se ?_
 replace L2:=L2.gr (g5.trans (g7.trans (g9.trans g11)))
 refine es 84 0 (.agg #[(.string ⟨(Lib.itoa (x/(Int.gcd (x) (y):Int)):List UInt8).toArray⟩),(.string ⟨(Lib.itoa (y/(Int.gcd (x) (y):Int)):List UInt8).toArray⟩)]) [(.string ⟨(Lib.itoa (x/(Int.gcd (x) (y):Int)):List UInt8).toArray⟩),(.string ⟨(Lib.itoa (y/(Int.gcd (x) (y):Int)):List UInt8).toArray⟩)] #[(.string ⟨(Lib.itoa (x/(Int.gcd (x) (y):Int)):List UInt8).toArray⟩),(.string ⟨(Lib.itoa (y/(Int.gcd (x) (y):Int)):List UInt8).toArray⟩)] L2 hB q2 ⟨rfl,rfl,trivial⟩ fun w13 st13 kp13 L2 hB=>?_
 refine sq_nil ?_
 refine k12 _ _ ?_
 try clear k12 K12
 refine wp_ret ?_
 refine bodyPost_ret (v:=(.agg #[(.string ⟨(Lib.itoa (x/(Int.gcd (x) (y):Int)):List UInt8).toArray⟩),(.string ⟨(Lib.itoa (y/(Int.gcd (x) (y):Int)):List UInt8).toArray⟩)])) (ret_cell _ _ _ rfl rfl L2 (by kernel_rfl)) rfl ⟨?_,hB⟩
 exact (by rw [(divInt_parts (N:=x) h0).1,(divInt_parts (N:=x) h0).2.1])

set_option maxRecDepth 100000 in
set_option maxHeartbeats 4000000 in
theorem f5_make_n {k m:Nat} (x y:Int) (hx:Sz k x) (hy:Sz m y) (_hy0:y<0) (_hk:k+m≤60000) (w:World):
    Calls Tryz.prog 91 #[(.string ⟨(Lib.itoa (x):List UInt8).toArray⟩),(.string ⟨(Lib.itoa (y):List UInt8).toArray⟩)] w fun e w'=>e=.returned (.agg #[.string ⟨(Lib.itoa (Rat.divInt x y).num).toArray⟩,.string ⟨(Lib.itoa ((Rat.divInt x y).den:Int)).toArray⟩])∧Gr w w':=by
 have hs:decide (sgn y<0)=true:=by rw [sgn_lt];simp;omega
 have h0:(0:Int)< -y:=by omega
 have hgp:=(divInt_parts (N:=-x) h0).2.2
 go_enter Tryz.func91,Tryz.ntmps91
 have hB:=Gr.refl w
 refine wp_seq_k (fun K1 k1=>?_)
 refine rg [0] ?_
 refine se ?_
 refine ea 84 #[(.string ⟨([]:List UInt8).toArray⟩),(.string ⟨([]:List UInt8).toArray⟩)] 4 hB fun b2 w2 g2 L2 o2 q2 hB=>?_
 simp only [p3,p4]
 refine sq_nil ?_
 refine k1 _ _ ?_
 try clear k1 K1
 refine wp_seq_k (fun K3 k3=>?_)
 refine wp_seq_k (fun K4 k4=>?_)
 refine rg [0,1,2] ?_
 refine sv 6 (.string ⟨(Lib.itoa (y):List UInt8).toArray⟩) ?_
 refine se ?_
 refine ec 7 (r1_sign_i (y) _) ?_
 rintro e5 w5 ⟨rfl,g5⟩
 refine ⟨_,rfl,?_⟩
 replace hB:=hB.trans g5
 simp only [p3,p4]
 refine sw 8 (.bool true) rfl (RunV.bool (x:=decide (sgn (y)<(0:Int))) (rvk (by kernel_rfl)) hs) ?_
 refine sq_nil ?_
 refine k4 _ _ ?_
 try clear k4 K4
 refine wp_cond_true rfl ?_
 refine rg [0,1,2,3,4,5] ?_
 refine sv 9 (.string ⟨(Lib.itoa (x):List UInt8).toArray⟩) ?_
 refine se ?_
 refine ec 10 (r1_neg (x) hx (by omega) _) ?_
 rintro e6 w6 ⟨rfl,g6⟩
 refine ⟨_,rfl,?_⟩
 replace hB:=hB.trans g6
 simp only [p3,p4]
 refine sv 11 (.string ⟨(Lib.itoa (y):List UInt8).toArray⟩) ?_
 refine se ?_
 refine ec 12 (r1_neg (y) hy (by omega) _) ?_
 rintro e7 w7 ⟨rfl,g7⟩
 refine ⟨_,rfl,?_⟩
 replace hB:=hB.trans g7
 simp only [p3,p4]
 refine sv 0 (.string ⟨(Lib.itoa (-x):List UInt8).toArray⟩) ?_
 refine sv 1 (.string ⟨(Lib.itoa (-y):List UInt8).toArray⟩) ?_
 refine sq_nil ?_
 refine k3 _ _ ?_
 try clear k3 K3
 refine wp_seq_k (fun K8 k8=>?_)
 refine rg [0,1,2,3] ?_
 refine sv 13 (.string ⟨(Lib.itoa (-x):List UInt8).toArray⟩) ?_
 refine sv 14 (.string ⟨(Lib.itoa (-y):List UInt8).toArray⟩) ?_
 refine se ?_
 refine ec 15 (r1_gcd (-x) (-y) hx.neg hy.neg (by omega) _) ?_
 rintro e9 w9 ⟨rfl,g9⟩
 refine ⟨_,rfl,?_⟩
 replace hB:=hB.trans g9
 simp only [p3,p4]
 refine sv 5 (.string ⟨(Lib.itoa ((Int.gcd (-x) (-y):Int)):List UInt8).toArray⟩) ?_
 refine sq_nil ?_
 refine k8 _ _ ?_
 try clear k8 K8
 refine wp_seq_k (fun K10 k10=>?_)
 refine rg [0,1,2,3,4,5,6] ?_
 refine sv 17 (.string ⟨(Lib.itoa (-x):List UInt8).toArray⟩) ?_
 refine sv 18 (.string ⟨(Lib.itoa ((Int.gcd (-x) (-y):Int)):List UInt8).toArray⟩) ?_
 refine se ?_
 refine ec 19 (r1_divmod (-x) ((Int.gcd (-x) (-y):Int)) hx.neg (sz_gcd2 hx.neg hy.neg) hgp (by omega) _) ?_
 rintro e11 w11 ⟨rfl,g11⟩
 refine ⟨_,rfl,?_⟩
 replace hB:=hB.trans g11
 simp only [p3,p4]
 refine sv 16 (.tuple #[(.string ⟨(Lib.itoa ((-x)/(Int.gcd (-x) (-y):Int)):List UInt8).toArray⟩),(.string ⟨(Lib.itoa ((-x) % (Int.gcd (-x) (-y):Int)):List UInt8).toArray⟩)]) ?_
 refine sv 20 (.string ⟨(Lib.itoa ((-x)/(Int.gcd (-x) (-y):Int)):List UInt8).toArray⟩) ?_
 refine sv 21 (.string ⟨(Lib.itoa ((-x) % (Int.gcd (-x) (-y):Int)):List UInt8).toArray⟩) ?_
 refine sv 0 (.string ⟨(Lib.itoa ((-x)/(Int.gcd (-x) (-y):Int)):List UInt8).toArray⟩) ?_
 refine sq_nil ?_
 refine k10 _ _ ?_
 try clear k10 K10
 refine wp_seq_k (fun K12 k12=>?_)
 refine rg [0,1,2,3,4,5,6] ?_
 refine sv 23 (.string ⟨(Lib.itoa (-y):List UInt8).toArray⟩) ?_
 refine sv 24 (.string ⟨(Lib.itoa ((Int.gcd (-x) (-y):Int)):List UInt8).toArray⟩) ?_
 refine se ?_
 refine ec 25 (r1_divmod (-y) ((Int.gcd (-x) (-y):Int)) hy.neg (sz_gcd2 hx.neg hy.neg) hgp (by omega) _) ?_
 rintro e13 w13 ⟨rfl,g13⟩
 refine ⟨_,rfl,?_⟩
 replace hB:=hB.trans g13
 simp only [p3,p4]
 refine sv 22 (.tuple #[(.string ⟨(Lib.itoa ((-y)/(Int.gcd (-x) (-y):Int)):List UInt8).toArray⟩),(.string ⟨(Lib.itoa ((-y) % (Int.gcd (-x) (-y):Int)):List UInt8).toArray⟩)]) ?_
 refine sv 26 (.string ⟨(Lib.itoa ((-y)/(Int.gcd (-x) (-y):Int)):List UInt8).toArray⟩) ?_
 refine sv 27 (.string ⟨(Lib.itoa ((-y) % (Int.gcd (-x) (-y):Int)):List UInt8).toArray⟩) ?_
 refine sv 1 (.string ⟨(Lib.itoa ((-y)/(Int.gcd (-x) (-y):Int)):List UInt8).toArray⟩) ?_
 refine sq_nil ?_
 refine k12 _ _ ?_
 try clear k12 K12
 refine wp_seq_k (fun K14 k14=>?_)
 refine rg [0,1,2,3] ?_
 refine sv 28 (.string ⟨(Lib.itoa ((-x)/(Int.gcd (-x) (-y):Int)):List UInt8).toArray⟩) ?_
 refine sv 29 (.string ⟨(Lib.itoa ((-y)/(Int.gcd (-x) (-y):Int)):List UInt8).toArray⟩) ?_
 refine sv 30 (.agg #[(.string ⟨(Lib.itoa ((-x)/(Int.gcd (-x) (-y):Int)):List UInt8).toArray⟩),(.string ⟨(Lib.itoa ((-y)/(Int.gcd (-x) (-y):Int)):List UInt8).toArray⟩)]) ?_
 refine se ?_
 replace L2:=L2.gr (g5.trans (g6.trans (g7.trans (g9.trans (g11.trans g13)))))
 refine es 84 0 (.agg #[(.string ⟨(Lib.itoa ((-x)/(Int.gcd (-x) (-y):Int)):List UInt8).toArray⟩),(.string ⟨(Lib.itoa ((-y)/(Int.gcd (-x) (-y):Int)):List UInt8).toArray⟩)]) [(.string ⟨(Lib.itoa ((-x)/(Int.gcd (-x) (-y):Int)):List UInt8).toArray⟩),(.string ⟨(Lib.itoa ((-y)/(Int.gcd (-x) (-y):Int)):List UInt8).toArray⟩)] #[(.string ⟨(Lib.itoa ((-x)/(Int.gcd (-x) (-y):Int)):List UInt8).toArray⟩),(.string ⟨(Lib.itoa ((-y)/(Int.gcd (-x) (-y):Int)):List UInt8).toArray⟩)] L2 hB q2 ⟨rfl,rfl,trivial⟩ fun w15 st15 kp15 L2 hB=>?_
 refine sq_nil ?_
 refine k14 _ _ ?_
 try clear k14 K14
 refine wp_ret ?_
 refine bodyPost_ret (v:=(.agg #[(.string ⟨(Lib.itoa ((-x)/(Int.gcd (-x) (-y):Int)):List UInt8).toArray⟩),(.string ⟨(Lib.itoa ((-y)/(Int.gcd (-x) (-y):Int)):List UInt8).toArray⟩)])) (ret_cell _ _ _ rfl rfl L2 (by kernel_rfl)) rfl ⟨?_,hB⟩
 exact (by rw [← divInt_neg2,(divInt_parts (N:=-x) h0).1,(divInt_parts (N:=-x) h0).2.1])

theorem f5_make {k m:Nat} (x y:Int) (q:Rat) (hq:Rat.divInt x y=q) (hx:Sz k x) (hy:Sz m y) (hy0:y≠0) (hk:k+m≤60000) (w:World):
    Calls Tryz.prog 91 #[.string ⟨(Lib.itoa x).toArray⟩,.string ⟨(Lib.itoa y).toArray⟩] w fun e w'=>e=.returned (.agg #[.string ⟨(Lib.itoa (q).num).toArray⟩,.string ⟨(Lib.itoa ((q).den:Int)).toArray⟩])∧Gr w w':=by
  subst hq
  rcases Int.lt_or_lt_of_ne hy0 with h | h
  · exact f5_make_n x y hx hy h hk w
  · exact f5_make_p x y hx hy h hk w

set_option maxRecDepth 100000 in
set_option maxHeartbeats 1000000 in
theorem f5_add {k m:Nat} (a b:Rat) (ha:Sz k a.num∧Sz k (a.den:Int)) (hb:Sz m b.num∧Sz m (b.den:Int)) (_hk:k+m≤19998) (w:World):
    Calls Tryz.prog 58 #[(.agg #[(.string ⟨(Lib.itoa (a.num):List UInt8).toArray⟩),(.string ⟨(Lib.itoa ((a.den:Int)):List UInt8).toArray⟩)]),(.agg #[(.string ⟨(Lib.itoa (b.num):List UInt8).toArray⟩),(.string ⟨(Lib.itoa ((b.den:Int)):List UInt8).toArray⟩)])] w fun e w'=>e=.returned (.agg #[.string ⟨(Lib.itoa (a+b).num).toArray⟩,.string ⟨(Lib.itoa ((a+b).den:Int)).toArray⟩])∧Gr w w':=by
 go_enter Tryz.func58,Tryz.ntmps58
 have hB:=Gr.refl w
 refine wp_seq_k (fun K1 k1=>?_)
 refine rg [0,1,2] ?_
 refine se ?_
 refine eb 84 #[(.string ⟨(Lib.itoa (a.num):List UInt8).toArray⟩),(.string ⟨(Lib.itoa ((a.den:Int)):List UInt8).toArray⟩)] 2 hB fun b2 w2 g2 L2 o2 q2 hB=>?_
 simp only [p3,p4]
 refine se ?_
 refine eb 84 #[(.string ⟨(Lib.itoa (b.num):List UInt8).toArray⟩),(.string ⟨(Lib.itoa ((b.den:Int)):List UInt8).toArray⟩)] 3 hB fun b3 w3 g3 L3 o3 q3 hB=>?_
 simp only [p3,p4]
 refine se ?_
 refine ea 84 #[(.string ⟨([]:List UInt8).toArray⟩),(.string ⟨([]:List UInt8).toArray⟩)] 4 hB fun b4 w4 g4 L4 o4 q4 hB=>?_
 replace L2:=L2.gr g3
 have ne2_4:=L2.ne o4
 have ne3_4:=L3.ne o4
 simp only [p3,p4]
 refine sq_nil ?_
 refine k1 _ _ ?_
 try clear k1 K1
 refine wp_seq_k (fun K5 k5=>?_)
 have gd19:=Gr.drew w4
 replace hB:=hB.trans gd19
 replace L2:=L2.gr (g4.trans gd19)
 replace L3:=L3.gr (g4.trans gd19)
 refine wp_region_ord (fun w'=>Lc w' b2 #[(.string ⟨(Lib.itoa (a.num):List UInt8).toArray⟩),(.string ⟨(Lib.itoa ((a.den:Int)):List UInt8).toArray⟩)] 84∧Lc w' b3 #[(.string ⟨(Lib.itoa (b.num):List UInt8).toArray⟩),(.string ⟨(Lib.itoa ((b.den:Int)):List UInt8).toArray⟩)] 84) [(true,0),(true,1),(true,2),(true,3),(true,5),(true,6),(true,7),(true,8),(true,11),(true,12),(true,13),(true,14),(false,4),(false,9),(false,10),(false,15),(false,16),(false,17)] (by kernel_rfl) (by kernel_rfl) (by kernel_rfl) (by decide) (fun _ _ _ _ _ h=>h) ⟨L2,L3⟩ ?_
 refine ov 5 (.pointer (some ⟨b2,0,none⟩)) ?_
 refine ow 6 (.string ⟨(Lib.itoa (a.num):List UInt8).toArray⟩) rfl (fun w' hS=>(rk 9 0 hS.1)) ?_
 refine ov 7 (.pointer (some ⟨b3,1,none⟩)) ?_
 refine ow 8 (.string ⟨(Lib.itoa ((b.den:Int)):List UInt8).toArray⟩) rfl (fun w' hS=>(rk 9 1 hS.2)) ?_
 refine ov 10 (.pointer (some ⟨b3,0,none⟩)) ?_
 refine ow 11 (.string ⟨(Lib.itoa (b.num):List UInt8).toArray⟩) rfl (fun w' hS=>(rk 9 0 hS.2)) ?_
 refine ov 12 (.pointer (some ⟨b2,1,none⟩)) ?_
 refine ow 13 (.string ⟨(Lib.itoa ((a.den:Int)):List UInt8).toArray⟩) rfl (fun w' hS=>(rk 9 1 hS.1)) ?_
 refine ov 16 (.pointer (some ⟨b2,1,none⟩)) ?_
 refine ow 17 (.string ⟨(Lib.itoa ((a.den:Int)):List UInt8).toArray⟩) rfl (fun w' hS=>(rk 9 1 hS.1)) ?_
 refine ov 18 (.pointer (some ⟨b3,1,none⟩)) ?_
 refine ow 19 (.string ⟨(Lib.itoa ((b.den:Int)):List UInt8).toArray⟩) rfl (fun w' hS=>(rk 9 1 hS.2)) ?_
 refine oe ?_
 refine ec 9 (r1_mul (a.num) ((b.den:Int)) ha.1 hb.2 (by omega) _) ?_
 rintro e21 w21 ⟨rfl,g21⟩
 refine ⟨_,rfl,?_⟩
 replace hB:=hB.trans g21
 replace L2:=L2.gr g21
 replace L3:=L3.gr g21
 refine ⟨⟨L2,L3⟩,?_⟩
 simp only [p3,p4]
 refine oe ?_
 refine ec 14 (r1_mul (b.num) ((a.den:Int)) hb.1 ha.2 (by omega) _) ?_
 rintro e23 w23 ⟨rfl,g23⟩
 refine ⟨_,rfl,?_⟩
 replace hB:=hB.trans g23
 replace L2:=L2.gr g23
 replace L3:=L3.gr g23
 refine ⟨⟨L2,L3⟩,?_⟩
 simp only [p3,p4]
 refine oe ?_
 refine ec 15 (r1_add (a.num*(b.den:Int)) (b.num*(a.den:Int)) (ha.1.mul hb.2) (hb.1.mul ha.2) (by omega) _) ?_
 rintro e25 w25 ⟨rfl,g25⟩
 refine ⟨_,rfl,?_⟩
 replace hB:=hB.trans g25
 replace L2:=L2.gr g25
 replace L3:=L3.gr g25
 refine ⟨⟨L2,L3⟩,?_⟩
 simp only [p3,p4]
 refine oe ?_
 refine ec 20 (r1_mul ((a.den:Int)) ((b.den:Int)) ha.2 hb.2 (by omega) _) ?_
 rintro e27 w27 ⟨rfl,g27⟩
 refine ⟨_,rfl,?_⟩
 replace hB:=hB.trans g27
 replace L2:=L2.gr g27
 replace L3:=L3.gr g27
 refine ⟨⟨L2,L3⟩,?_⟩
 simp only [p3,p4]
 refine oe ?_
 refine ec 21 (f5_make (a.num*(b.den:Int)+b.num*(a.den:Int)) ((a.den:Int)*(b.den:Int)) (a+b) (rat_add a b) ((ha.1.mul hb.2).add (hb.1.mul ha.2)) (ha.2.mul hb.2) (Int.ne_of_gt (den2_pos a b)) (by omega) _) ?_
 rintro e29 w29 ⟨rfl,g29⟩
 refine ⟨_,rfl,?_⟩
 replace hB:=hB.trans g29
 replace L2:=L2.gr g29
 replace L3:=L3.gr g29
 refine ⟨⟨L2,L3⟩,?_⟩
 simp only [p3,p4]
 refine oe ?_
 replace L4:=L4.gr (gd19.trans (g21.trans (g23.trans (g25.trans (g27.trans g29)))))
 refine es 84 0 (.agg #[(.string ⟨(Lib.itoa ((a+b).num):List UInt8).toArray⟩),(.string ⟨(Lib.itoa (((a+b).den:Int)):List UInt8).toArray⟩)]) [(.string ⟨(Lib.itoa ((a+b).num):List UInt8).toArray⟩),(.string ⟨(Lib.itoa (((a+b).den:Int)):List UInt8).toArray⟩)] #[(.string ⟨(Lib.itoa ((a+b).num):List UInt8).toArray⟩),(.string ⟨(Lib.itoa (((a+b).den:Int)):List UInt8).toArray⟩)] L4 hB q4 ⟨rfl,rfl,trivial⟩ fun w31 st31 kp31 L4 hB=>?_
 replace L2:=st31.lc L2 ne2_4
 replace L3:=st31.lc L3 ne3_4
 refine ⟨⟨L2,L3⟩,?_⟩
 refine ord_nil ?_
 refine k5 _ _ ?_
 try clear k5 K5
 refine wp_ret ?_
 refine bodyPost_ret (v:=(.agg #[(.string ⟨(Lib.itoa ((a+b).num):List UInt8).toArray⟩),(.string ⟨(Lib.itoa (((a+b).den:Int)):List UInt8).toArray⟩)])) (ret_cell _ _ _ rfl rfl L4 (by kernel_rfl)) rfl ⟨?_,hB⟩
 exact rfl

set_option maxRecDepth 100000 in
set_option maxHeartbeats 1000000 in
theorem f5_mul {k m:Nat} (a b:Rat) (ha:Sz k a.num∧Sz k (a.den:Int)) (hb:Sz m b.num∧Sz m (b.den:Int)) (_hk:k+m≤19998) (w:World):
    Calls Tryz.prog 59 #[(.agg #[(.string ⟨(Lib.itoa (a.num):List UInt8).toArray⟩),(.string ⟨(Lib.itoa ((a.den:Int)):List UInt8).toArray⟩)]),(.agg #[(.string ⟨(Lib.itoa (b.num):List UInt8).toArray⟩),(.string ⟨(Lib.itoa ((b.den:Int)):List UInt8).toArray⟩)])] w fun e w'=>e=.returned (.agg #[.string ⟨(Lib.itoa (a*b).num).toArray⟩,.string ⟨(Lib.itoa ((a*b).den:Int)).toArray⟩])∧Gr w w':=by
 go_enter Tryz.func59,Tryz.ntmps59
 have hB:=Gr.refl w
 refine wp_seq_k (fun K1 k1=>?_)
 refine rg [0,1,2] ?_
 refine se ?_
 refine eb 84 #[(.string ⟨(Lib.itoa (a.num):List UInt8).toArray⟩),(.string ⟨(Lib.itoa ((a.den:Int)):List UInt8).toArray⟩)] 2 hB fun b2 w2 g2 L2 o2 q2 hB=>?_
 simp only [p3,p4]
 refine se ?_
 refine eb 84 #[(.string ⟨(Lib.itoa (b.num):List UInt8).toArray⟩),(.string ⟨(Lib.itoa ((b.den:Int)):List UInt8).toArray⟩)] 3 hB fun b3 w3 g3 L3 o3 q3 hB=>?_
 simp only [p3,p4]
 refine se ?_
 refine ea 84 #[(.string ⟨([]:List UInt8).toArray⟩),(.string ⟨([]:List UInt8).toArray⟩)] 4 hB fun b4 w4 g4 L4 o4 q4 hB=>?_
 replace L2:=L2.gr g3
 have ne2_4:=L2.ne o4
 have ne3_4:=L3.ne o4
 simp only [p3,p4]
 refine sq_nil ?_
 refine k1 _ _ ?_
 try clear k1 K1
 refine wp_seq_k (fun K5 k5=>?_)
 have gd15:=Gr.drew w4
 replace hB:=hB.trans gd15
 replace L2:=L2.gr (g4.trans gd15)
 replace L3:=L3.gr (g4.trans gd15)
 refine wp_region_ord (fun w'=>Lc w' b2 #[(.string ⟨(Lib.itoa (a.num):List UInt8).toArray⟩),(.string ⟨(Lib.itoa ((a.den:Int)):List UInt8).toArray⟩)] 84∧Lc w' b3 #[(.string ⟨(Lib.itoa (b.num):List UInt8).toArray⟩),(.string ⟨(Lib.itoa ((b.den:Int)):List UInt8).toArray⟩)] 84) [(true,0),(true,1),(true,2),(true,3),(true,5),(true,6),(true,7),(true,8),(false,4),(false,9),(false,10),(false,11)] (by kernel_rfl) (by kernel_rfl) (by kernel_rfl) (by decide) (fun _ _ _ _ _ h=>h) ⟨L2,L3⟩ ?_
 refine ov 5 (.pointer (some ⟨b2,0,none⟩)) ?_
 refine ow 6 (.string ⟨(Lib.itoa (a.num):List UInt8).toArray⟩) rfl (fun w' hS=>(rk 9 0 hS.1)) ?_
 refine ov 7 (.pointer (some ⟨b3,0,none⟩)) ?_
 refine ow 8 (.string ⟨(Lib.itoa (b.num):List UInt8).toArray⟩) rfl (fun w' hS=>(rk 9 0 hS.2)) ?_
 refine ov 10 (.pointer (some ⟨b2,1,none⟩)) ?_
 refine ow 11 (.string ⟨(Lib.itoa ((a.den:Int)):List UInt8).toArray⟩) rfl (fun w' hS=>(rk 9 1 hS.1)) ?_
 refine ov 12 (.pointer (some ⟨b3,1,none⟩)) ?_
 refine ow 13 (.string ⟨(Lib.itoa ((b.den:Int)):List UInt8).toArray⟩) rfl (fun w' hS=>(rk 9 1 hS.2)) ?_
 refine oe ?_
 refine ec 9 (r1_mul (a.num) (b.num) ha.1 hb.1 (by omega) _) ?_
 rintro e17 w17 ⟨rfl,g17⟩
 refine ⟨_,rfl,?_⟩
 replace hB:=hB.trans g17
 replace L2:=L2.gr g17
 replace L3:=L3.gr g17
 refine ⟨⟨L2,L3⟩,?_⟩
 simp only [p3,p4]
 refine oe ?_
 refine ec 14 (r1_mul ((a.den:Int)) ((b.den:Int)) ha.2 hb.2 (by omega) _) ?_
 rintro e19 w19 ⟨rfl,g19⟩
 refine ⟨_,rfl,?_⟩
 replace hB:=hB.trans g19
 replace L2:=L2.gr g19
 replace L3:=L3.gr g19
 refine ⟨⟨L2,L3⟩,?_⟩
 simp only [p3,p4]
 refine oe ?_
 refine ec 15 (f5_make (a.num*b.num) ((a.den:Int)*(b.den:Int)) (a*b) (rat_mul a b) (ha.1.mul hb.1) (ha.2.mul hb.2) (Int.ne_of_gt (den2_pos a b)) (by omega) _) ?_
 rintro e21 w21 ⟨rfl,g21⟩
 refine ⟨_,rfl,?_⟩
 replace hB:=hB.trans g21
 replace L2:=L2.gr g21
 replace L3:=L3.gr g21
 refine ⟨⟨L2,L3⟩,?_⟩
 simp only [p3,p4]
 refine oe ?_
 replace L4:=L4.gr (gd15.trans (g17.trans (g19.trans g21)))
 refine es 84 0 (.agg #[(.string ⟨(Lib.itoa ((a*b).num):List UInt8).toArray⟩),(.string ⟨(Lib.itoa (((a*b).den:Int)):List UInt8).toArray⟩)]) [(.string ⟨(Lib.itoa ((a*b).num):List UInt8).toArray⟩),(.string ⟨(Lib.itoa (((a*b).den:Int)):List UInt8).toArray⟩)] #[(.string ⟨(Lib.itoa ((a*b).num):List UInt8).toArray⟩),(.string ⟨(Lib.itoa (((a*b).den:Int)):List UInt8).toArray⟩)] L4 hB q4 ⟨rfl,rfl,trivial⟩ fun w23 st23 kp23 L4 hB=>?_
 replace L2:=st23.lc L2 ne2_4
 replace L3:=st23.lc L3 ne3_4
 refine ⟨⟨L2,L3⟩,?_⟩
 refine ord_nil ?_
 refine k5 _ _ ?_
 try clear k5 K5
 refine wp_ret ?_
 refine bodyPost_ret (v:=(.agg #[(.string ⟨(Lib.itoa ((a*b).num):List UInt8).toArray⟩),(.string ⟨(Lib.itoa (((a*b).den:Int)):List UInt8).toArray⟩)])) (ret_cell _ _ _ rfl rfl L4 (by kernel_rfl)) rfl ⟨?_,hB⟩
 exact rfl

set_option maxRecDepth 100000 in
set_option maxHeartbeats 1000000 in
theorem f5_div {k m:Nat} (a b:Rat) (ha:Sz k a.num∧Sz k (a.den:Int)) (hb:Sz m b.num∧Sz m (b.den:Int)) (h0:b.num≠0) (_hk:k+m≤19998) (w:World):
    Calls Tryz.prog 56 #[(.agg #[(.string ⟨(Lib.itoa (a.num):List UInt8).toArray⟩),(.string ⟨(Lib.itoa ((a.den:Int)):List UInt8).toArray⟩)]),(.agg #[(.string ⟨(Lib.itoa (b.num):List UInt8).toArray⟩),(.string ⟨(Lib.itoa ((b.den:Int)):List UInt8).toArray⟩)])] w fun e w'=>e=.returned (.agg #[.string ⟨(Lib.itoa (a/b).num).toArray⟩,.string ⟨(Lib.itoa ((a/b).den:Int)).toArray⟩])∧Gr w w':=by
 go_enter Tryz.func56,Tryz.ntmps56
 have hB:=Gr.refl w
 refine wp_seq_k (fun K1 k1=>?_)
 refine rg [0,1,2] ?_
 refine se ?_
 refine eb 84 #[(.string ⟨(Lib.itoa (a.num):List UInt8).toArray⟩),(.string ⟨(Lib.itoa ((a.den:Int)):List UInt8).toArray⟩)] 2 hB fun b2 w2 g2 L2 o2 q2 hB=>?_
 simp only [p3,p4]
 refine se ?_
 refine eb 84 #[(.string ⟨(Lib.itoa (b.num):List UInt8).toArray⟩),(.string ⟨(Lib.itoa ((b.den:Int)):List UInt8).toArray⟩)] 3 hB fun b3 w3 g3 L3 o3 q3 hB=>?_
 simp only [p3,p4]
 refine se ?_
 refine ea 84 #[(.string ⟨([]:List UInt8).toArray⟩),(.string ⟨([]:List UInt8).toArray⟩)] 4 hB fun b4 w4 g4 L4 o4 q4 hB=>?_
 replace L2:=L2.gr g3
 have ne2_4:=L2.ne o4
 have ne3_4:=L3.ne o4
 simp only [p3,p4]
 refine sq_nil ?_
 refine k1 _ _ ?_
 try clear k1 K1
 refine wp_seq_k (fun K5 k5=>?_)
 have gd15:=Gr.drew w4
 replace hB:=hB.trans gd15
 replace L2:=L2.gr (g4.trans gd15)
 replace L3:=L3.gr (g4.trans gd15)
 refine wp_region_ord (fun w'=>Lc w' b2 #[(.string ⟨(Lib.itoa (a.num):List UInt8).toArray⟩),(.string ⟨(Lib.itoa ((a.den:Int)):List UInt8).toArray⟩)] 84∧Lc w' b3 #[(.string ⟨(Lib.itoa (b.num):List UInt8).toArray⟩),(.string ⟨(Lib.itoa ((b.den:Int)):List UInt8).toArray⟩)] 84) [(true,0),(true,1),(true,2),(true,3),(true,5),(true,6),(true,7),(true,8),(false,4),(false,9),(false,10),(false,11)] (by kernel_rfl) (by kernel_rfl) (by kernel_rfl) (by decide) (fun _ _ _ _ _ h=>h) ⟨L2,L3⟩ ?_
 refine ov 5 (.pointer (some ⟨b2,0,none⟩)) ?_
 refine ow 6 (.string ⟨(Lib.itoa (a.num):List UInt8).toArray⟩) rfl (fun w' hS=>(rk 9 0 hS.1)) ?_
 refine ov 7 (.pointer (some ⟨b3,1,none⟩)) ?_
 refine ow 8 (.string ⟨(Lib.itoa ((b.den:Int)):List UInt8).toArray⟩) rfl (fun w' hS=>(rk 9 1 hS.2)) ?_
 refine ov 10 (.pointer (some ⟨b2,1,none⟩)) ?_
 refine ow 11 (.string ⟨(Lib.itoa ((a.den:Int)):List UInt8).toArray⟩) rfl (fun w' hS=>(rk 9 1 hS.1)) ?_
 refine ov 12 (.pointer (some ⟨b3,0,none⟩)) ?_
 refine ow 13 (.string ⟨(Lib.itoa (b.num):List UInt8).toArray⟩) rfl (fun w' hS=>(rk 9 0 hS.2)) ?_
 refine oe ?_
 refine ec 9 (r1_mul (a.num) ((b.den:Int)) ha.1 hb.2 (by omega) _) ?_
 rintro e17 w17 ⟨rfl,g17⟩
 refine ⟨_,rfl,?_⟩
 replace hB:=hB.trans g17
 replace L2:=L2.gr g17
 replace L3:=L3.gr g17
 refine ⟨⟨L2,L3⟩,?_⟩
 simp only [p3,p4]
 refine oe ?_
 refine ec 14 (r1_mul ((a.den:Int)) (b.num) ha.2 hb.1 (by omega) _) ?_
 rintro e19 w19 ⟨rfl,g19⟩
 refine ⟨_,rfl,?_⟩
 replace hB:=hB.trans g19
 replace L2:=L2.gr g19
 replace L3:=L3.gr g19
 refine ⟨⟨L2,L3⟩,?_⟩
 simp only [p3,p4]
 refine oe ?_
 refine ec 15 (f5_make (a.num*(b.den:Int)) ((a.den:Int)*b.num) (a/b) (rat_div a b) (ha.1.mul hb.2) (ha.2.mul hb.1) (Int.mul_ne_zero (Int.ne_of_gt (den_pos_i a)) h0) (by omega) _) ?_
 rintro e21 w21 ⟨rfl,g21⟩
 refine ⟨_,rfl,?_⟩
 replace hB:=hB.trans g21
 replace L2:=L2.gr g21
 replace L3:=L3.gr g21
 refine ⟨⟨L2,L3⟩,?_⟩
 simp only [p3,p4]
 refine oe ?_
 replace L4:=L4.gr (gd15.trans (g17.trans (g19.trans g21)))
 refine es 84 0 (.agg #[(.string ⟨(Lib.itoa ((a/b).num):List UInt8).toArray⟩),(.string ⟨(Lib.itoa (((a/b).den:Int)):List UInt8).toArray⟩)]) [(.string ⟨(Lib.itoa ((a/b).num):List UInt8).toArray⟩),(.string ⟨(Lib.itoa (((a/b).den:Int)):List UInt8).toArray⟩)] #[(.string ⟨(Lib.itoa ((a/b).num):List UInt8).toArray⟩),(.string ⟨(Lib.itoa (((a/b).den:Int)):List UInt8).toArray⟩)] L4 hB q4 ⟨rfl,rfl,trivial⟩ fun w23 st23 kp23 L4 hB=>?_
 replace L2:=st23.lc L2 ne2_4
 replace L3:=st23.lc L3 ne3_4
 refine ⟨⟨L2,L3⟩,?_⟩
 refine ord_nil ?_
 refine k5 _ _ ?_
 try clear k5 K5
 refine wp_ret ?_
 refine bodyPost_ret (v:=(.agg #[(.string ⟨(Lib.itoa ((a/b).num):List UInt8).toArray⟩),(.string ⟨(Lib.itoa (((a/b).den:Int)):List UInt8).toArray⟩)])) (ret_cell _ _ _ rfl rfl L4 (by kernel_rfl)) rfl ⟨?_,hB⟩
 exact rfl

set_option maxRecDepth 100000 in
set_option maxHeartbeats 1000000 in
theorem f5_neg {k:Nat} (a:Rat) (ha:Sz k a.num∧Sz k (a.den:Int)) (_hk:k≤19998) (w:World):
    Calls Tryz.prog 57 #[(.agg #[(.string ⟨(Lib.itoa (a.num):List UInt8).toArray⟩),(.string ⟨(Lib.itoa ((a.den:Int)):List UInt8).toArray⟩)])] w fun e w'=>e=.returned (.agg #[.string ⟨(Lib.itoa (-a).num).toArray⟩,.string ⟨(Lib.itoa ((-a).den:Int)).toArray⟩])∧Gr w w':=by
 go_enter Tryz.func57,Tryz.ntmps57
 have hB:=Gr.refl w
 refine wp_seq_k (fun K1 k1=>?_)
 refine rg [0,1] ?_
 refine se ?_
 refine eb 84 #[(.string ⟨(Lib.itoa (a.num):List UInt8).toArray⟩),(.string ⟨(Lib.itoa ((a.den:Int)):List UInt8).toArray⟩)] 1 hB fun b2 w2 g2 L2 o2 q2 hB=>?_
 simp only [p3,p4]
 refine se ?_
 refine ea 84 #[(.string ⟨([]:List UInt8).toArray⟩),(.string ⟨([]:List UInt8).toArray⟩)] 2 hB fun b3 w3 g3 L3 o3 q3 hB=>?_
 have ne2_3:=L2.ne o3
 simp only [p3,p4]
 refine sq_nil ?_
 refine k1 _ _ ?_
 try clear k1 K1
 refine wp_seq_k (fun K4 k4=>?_)
 have gd10:=Gr.drew w3
 replace hB:=hB.trans gd10
 replace L2:=L2.gr (g3.trans gd10)
 refine wp_region_ord (fun w'=>Lc w' b2 #[(.string ⟨(Lib.itoa (a.num):List UInt8).toArray⟩),(.string ⟨(Lib.itoa ((a.den:Int)):List UInt8).toArray⟩)] 84) [(true,0),(true,1),(true,3),(true,4),(false,2),(true,5),(false,6)] (by kernel_rfl) (by kernel_rfl) (by kernel_rfl) (by decide) (fun _ _ _ _ _ h=>h) L2 ?_
 refine ov 3 (.pointer (some ⟨b2,0,none⟩)) ?_
 refine ow 4 (.string ⟨(Lib.itoa (a.num):List UInt8).toArray⟩) rfl (fun w' hS=>(rk 9 0 hS)) ?_
 refine ov 6 (.pointer (some ⟨b2,1,none⟩)) ?_
 refine ow 7 (.string ⟨(Lib.itoa ((a.den:Int)):List UInt8).toArray⟩) rfl (fun w' hS=>(rk 9 1 hS)) ?_
 refine oe ?_
 refine ec 5 (r1_neg (a.num) ha.1 (by omega) _) ?_
 rintro e12 w12 ⟨rfl,g12⟩
 refine ⟨_,rfl,?_⟩
 replace hB:=hB.trans g12
 replace L2:=L2.gr g12
 refine ⟨L2,?_⟩
 simp only [p3,p4]
 refine ov 8 (.agg #[(.string ⟨(Lib.itoa (-a.num):List UInt8).toArray⟩),(.string ⟨(Lib.itoa ((a.den:Int)):List UInt8).toArray⟩)]) ?_
 refine oe ?_
 replace L3:=L3.gr (gd10.trans g12)
 refine es 84 0 (.agg #[(.string ⟨(Lib.itoa (-a.num):List UInt8).toArray⟩),(.string ⟨(Lib.itoa ((a.den:Int)):List UInt8).toArray⟩)]) [(.string ⟨(Lib.itoa (-a.num):List UInt8).toArray⟩),(.string ⟨(Lib.itoa ((a.den:Int)):List UInt8).toArray⟩)] #[(.string ⟨(Lib.itoa (-a.num):List UInt8).toArray⟩),(.string ⟨(Lib.itoa ((a.den:Int)):List UInt8).toArray⟩)] L3 hB q3 ⟨rfl,rfl,trivial⟩ fun w14 st14 kp14 L3 hB=>?_
 replace L2:=st14.lc L2 ne2_3
 refine ⟨L2,?_⟩
 refine ord_nil ?_
 refine k4 _ _ ?_
 try clear k4 K4
 refine wp_ret ?_
 refine bodyPost_ret (v:=(.agg #[(.string ⟨(Lib.itoa (-a.num):List UInt8).toArray⟩),(.string ⟨(Lib.itoa ((a.den:Int)):List UInt8).toArray⟩)])) (ret_cell _ _ _ rfl rfl L3 (by kernel_rfl)) rfl ⟨?_,hB⟩
 exact (by rw [Rat.neg_num,Rat.neg_den])

set_option maxRecDepth 100000 in
set_option maxHeartbeats 1000000 in
theorem f5_zero (a:Rat) (w:World):
    Calls Tryz.prog 55 #[(.agg #[(.string ⟨(Lib.itoa (a.num):List UInt8).toArray⟩),(.string ⟨(Lib.itoa ((a.den:Int)):List UInt8).toArray⟩)])] w fun e w'=>e=.returned (.bool (Lib.itoa a.num==([48]:List UInt8)))∧Gr w w':=by
 go_enter Tryz.func55,Tryz.ntmps55
 have hB:=Gr.refl w
 refine wp_seq_k (fun K1 k1=>?_)
 refine rg [0,1] ?_
 refine se ?_
 refine eb 84 #[(.string ⟨(Lib.itoa (a.num):List UInt8).toArray⟩),(.string ⟨(Lib.itoa ((a.den:Int)):List UInt8).toArray⟩)] 1 hB fun b2 w2 g2 L2 o2 q2 hB=>?_
 simp only [p3,p4]
 refine sv 2 (.bool false) ?_
 refine sq_nil ?_
 refine k1 _ _ ?_
 try clear k1 K1
 refine wp_seq_k (fun K3 k3=>?_)
 refine rg [0,1,2,3] ?_
 refine sv 3 (.pointer (some ⟨b2,0,none⟩)) ?_
 refine sw 4 (.string ⟨(Lib.itoa (a.num):List UInt8).toArray⟩) rfl (rk 9 0 L2) ?_
 refine sw 5 (.bool (((Lib.itoa (a.num))==([48]:List UInt8)))) rfl (rv_seq 9 9 _ _ (Lib.itoa (a.num)) ([48]) rfl rfl rfl) ?_
 refine sv 2 (.bool (((Lib.itoa (a.num))==([48]:List UInt8)))) ?_
 refine sq_nil ?_
 refine k3 _ _ ?_
 try clear k3 K3
 refine wp_ret ?_
 refine bodyPost_ret (v:=(.bool (((Lib.itoa (a.num))==([48]:List UInt8))))) (ret_tmp rfl rfl) rfl ⟨?_,hB⟩
 exact rfl

set_option maxRecDepth 100000 in
set_option maxHeartbeats 1000000 in
theorem f5_text_w {k:Nat} (a:Rat) (ha:Sz k a.num∧Sz k (a.den:Int)) (hw:a.den=1) (_hk:k≤19998) (w:World):
    Calls Tryz.prog 41 #[(.agg #[(.string ⟨(Lib.itoa (a.num):List UInt8).toArray⟩),(.string ⟨(Lib.itoa ((a.den:Int)):List UInt8).toArray⟩)])] w fun e w'=>e=.returned (.string ⟨(ratL a).toArray⟩)∧Gr w w':=by
 have hb:(Lib.itoa (a.den:Int)==([49]:List UInt8))=true:=by rw [hw];decide+kernel
 have hl1:=itoa_len ha.1
 have hl2:=itoa_len ha.2
 go_enter Tryz.func41,Tryz.ntmps41
 have hB:=Gr.refl w
 refine wp_seq_k (fun K1 k1=>?_)
 refine rg [0,1] ?_
 refine se ?_
 refine eb 84 #[(.string ⟨(Lib.itoa (a.num):List UInt8).toArray⟩),(.string ⟨(Lib.itoa ((a.den:Int)):List UInt8).toArray⟩)] 1 hB fun b2 w2 g2 L2 o2 q2 hB=>?_
 simp only [p3,p4]
 refine sv 2 (.string ⟨([]:List UInt8).toArray⟩) ?_
 refine sq_nil ?_
 refine k1 _ _ ?_
 try clear k1 K1
 refine wp_seq_k (fun K3 k3=>?_)
 refine wp_seq_k (fun K4 k4=>?_)
 refine rg [0,1,2] ?_
 refine sv 3 (.pointer (some ⟨b2,1,none⟩)) ?_
 refine sw 4 (.string ⟨(Lib.itoa ((a.den:Int)):List UInt8).toArray⟩) rfl (rk 9 1 L2) ?_
 refine sw 5 (.bool true) rfl (RunV.bool (x:=((Lib.itoa ((a.den:Int)))==([49]:List UInt8))) (rv_seq 9 9 _ _ (Lib.itoa ((a.den:Int))) ([49]) rfl rfl rfl) hb) ?_
 refine sq_nil ?_
 refine k4 _ _ ?_
 try clear k4 K4
 refine wp_cond_true rfl ?_
 refine wp_seq_k (fun K5 k5=>?_)
 refine rg [0,1,2] ?_
 refine sv 6 (.pointer (some ⟨b2,0,none⟩)) ?_
 refine sw 7 (.string ⟨(Lib.itoa (a.num):List UInt8).toArray⟩) rfl (rk 9 0 L2) ?_
 refine sv 2 (.string ⟨(Lib.itoa (a.num):List UInt8).toArray⟩) ?_
 refine sq_nil ?_
 refine k5 _ _ ?_
 try clear k5 K5
 refine wp_ret ?_
 simp only [Exit.then]
 refine bodyPost_ret (v:=(.string ⟨(Lib.itoa (a.num):List UInt8).toArray⟩)) (ret_tmp rfl rfl) rfl ⟨?_,hB⟩
 exact (by rw [ratL_w hw])

set_option maxRecDepth 100000 in
set_option maxHeartbeats 1000000 in
theorem f5_text_f {k:Nat} (a:Rat) (ha:Sz k a.num∧Sz k (a.den:Int)) (hw:¬ a.den=1) (_hk:k≤19998) (w:World):
    Calls Tryz.prog 41 #[(.agg #[(.string ⟨(Lib.itoa (a.num):List UInt8).toArray⟩),(.string ⟨(Lib.itoa ((a.den:Int)):List UInt8).toArray⟩)])] w fun e w'=>e=.returned (.string ⟨(ratL a).toArray⟩)∧Gr w w':=by
 have hb:(Lib.itoa (a.den:Int)==([49]:List UInt8))=false:=by rw [beq_eq_false_iff_ne];intro e;rw [← itoa_one] at e;have:=itoa_inj e;omega
 have hl1:=itoa_len ha.1
 have hl2:=itoa_len ha.2
 go_enter Tryz.func41,Tryz.ntmps41
 have hB:=Gr.refl w
 refine wp_seq_k (fun K1 k1=>?_)
 refine rg [0,1] ?_
 refine se ?_
 refine eb 84 #[(.string ⟨(Lib.itoa (a.num):List UInt8).toArray⟩),(.string ⟨(Lib.itoa ((a.den:Int)):List UInt8).toArray⟩)] 1 hB fun b2 w2 g2 L2 o2 q2 hB=>?_
 simp only [p3,p4]
 refine sv 2 (.string ⟨([]:List UInt8).toArray⟩) ?_
 refine sq_nil ?_
 refine k1 _ _ ?_
 try clear k1 K1
 refine wp_seq_k (fun K3 k3=>?_)
 refine wp_seq_k (fun K4 k4=>?_)
 refine rg [0,1,2] ?_
 refine sv 3 (.pointer (some ⟨b2,1,none⟩)) ?_
 refine sw 4 (.string ⟨(Lib.itoa ((a.den:Int)):List UInt8).toArray⟩) rfl (rk 9 1 L2) ?_
 refine sw 5 (.bool false) rfl (RunV.bool (x:=((Lib.itoa ((a.den:Int)))==([49]:List UInt8))) (rv_seq 9 9 _ _ (Lib.itoa ((a.den:Int))) ([49]) rfl rfl rfl) hb) ?_
 refine sq_nil ?_
 refine k4 _ _ ?_
 try clear k4 K4
 refine wp_cond_false rfl ?_
 refine wp_skip ?_
 refine k3 _ _ ?_
 try clear k3 K3
 refine wp_seq_k (fun K5 k5=>?_)
 refine rg [0,1,2,3,4,5,6] ?_
 refine sv 8 (.pointer (some ⟨b2,0,none⟩)) ?_
 refine sw 9 (.string ⟨(Lib.itoa (a.num):List UInt8).toArray⟩) rfl (rk 9 0 L2) ?_
 refine sw 10 (.string ⟨((Lib.itoa (a.num))++([47]):List UInt8).toArray⟩) rfl (rv_cat 9 9 _ _ (Lib.itoa (a.num)) ([47]) rfl rfl rfl (by simp only [List.length_cons,List.length_nil];omega)) ?_
 refine sv 11 (.pointer (some ⟨b2,1,none⟩)) ?_
 refine sw 12 (.string ⟨(Lib.itoa ((a.den:Int)):List UInt8).toArray⟩) rfl (rk 9 1 L2) ?_
 refine sw 13 (.string ⟨(((Lib.itoa (a.num))++([47]))++(Lib.itoa ((a.den:Int))):List UInt8).toArray⟩) rfl (rv_cat 9 9 _ _ ((Lib.itoa (a.num))++([47])) (Lib.itoa ((a.den:Int))) rfl rfl rfl (by simp only [List.length_append,List.length_cons,List.length_nil];omega)) ?_
 refine sv 2 (.string ⟨(((Lib.itoa (a.num))++([47]))++(Lib.itoa ((a.den:Int))):List UInt8).toArray⟩) ?_
 refine sq_nil ?_
 refine k5 _ _ ?_
 try clear k5 K5
 refine wp_ret ?_
 refine bodyPost_ret (v:=(.string ⟨(((Lib.itoa (a.num))++([47]))++(Lib.itoa ((a.den:Int))):List UInt8).toArray⟩)) (ret_tmp rfl rfl) rfl ⟨?_,hB⟩
 exact (by rw [ratL_f hw])

theorem f5_text {k:Nat} (a:Rat) (ha:Sz k a.num∧Sz k (a.den:Int)) (hk:k≤19998) (w:World):
    Calls Tryz.prog 41 #[(.agg #[(.string ⟨(Lib.itoa (a.num):List UInt8).toArray⟩),(.string ⟨(Lib.itoa ((a.den:Int)):List UInt8).toArray⟩)])] w fun e w'=>e=.returned (.string ⟨(ratL a).toArray⟩)∧Gr w w':=by
  by_cases hw:a.den=1
  · exact f5_text_w a ha hw hk w
  · exact f5_text_f a ha hw hk w

set_option maxRecDepth 100000 in
set_option maxHeartbeats 1000000 in
theorem f5_of (n d:Int) (hn:Sz 64 n) (hd:Sz 64 d) (_h0:0<d) (_b1:-9223372036854775808≤n∧n≤9223372036854775807) (b2:d≤9223372036854775807) (w:World):
    Calls Tryz.prog 64 #[(.int .i64 (n)),(.int .i64 (d))] w fun e w'=>e=.returned (.agg #[.string ⟨(Lib.itoa (((n:Int):Rat)/((d:Int):Rat)).num).toArray⟩,.string ⟨(Lib.itoa ((((n:Int):Rat)/((d:Int):Rat)).den:Int)).toArray⟩])∧Gr w w':=by
 go_enter Tryz.func64,Tryz.ntmps64
 have hB:=Gr.refl w
 refine wp_seq_k (fun K1 k1=>?_)
 refine rg [0] ?_
 refine se ?_
 refine ea 84 #[(.string ⟨([]:List UInt8).toArray⟩),(.string ⟨([]:List UInt8).toArray⟩)] 4 hB fun b2 w2 g2 L2 o2 q2 hB=>?_
 simp only [p3,p4]
 refine sq_nil ?_
 refine k1 _ _ ?_
 try clear k1 K1
 refine wp_seq_k (fun K3 k3=>?_)
 refine rg [0,1,2,3,4,5] ?_
 refine sv 5 (.int .i64 (n)) ?_
 refine se ?_
 refine ec 6 (r1_from (n) (by omega) (by omega) _) ?_
 rintro e4 w4 ⟨rfl,g4⟩
 refine ⟨_,rfl,?_⟩
 replace hB:=hB.trans g4
 simp only [p3,p4]
 refine sv 7 (.int .i64 (d)) ?_
 refine se ?_
 refine ec 8 (r1_from (d) (by omega) (by omega) _) ?_
 rintro e5 w5 ⟨rfl,g5⟩
 refine ⟨_,rfl,?_⟩
 replace hB:=hB.trans g5
 simp only [p3,p4]
 refine se ?_
 refine ec 9 (f5_make (n) (d) (((n:Int):Rat)/((d:Int):Rat)) (Rat.divInt_eq_div n d) hn hd (by omega) (by decide) _) ?_
 rintro e6 w6 ⟨rfl,g6⟩
 refine ⟨_,rfl,?_⟩
 replace hB:=hB.trans g6
 simp only [p3,p4]
 refine se ?_
 replace L2:=L2.gr (g4.trans (g5.trans g6))
 refine es 84 0 (.agg #[(.string ⟨(Lib.itoa ((((n:Int):Rat)/((d:Int):Rat)).num):List UInt8).toArray⟩),(.string ⟨(Lib.itoa (((((n:Int):Rat)/((d:Int):Rat)).den:Int)):List UInt8).toArray⟩)]) [(.string ⟨(Lib.itoa ((((n:Int):Rat)/((d:Int):Rat)).num):List UInt8).toArray⟩),(.string ⟨(Lib.itoa (((((n:Int):Rat)/((d:Int):Rat)).den:Int)):List UInt8).toArray⟩)] #[(.string ⟨(Lib.itoa ((((n:Int):Rat)/((d:Int):Rat)).num):List UInt8).toArray⟩),(.string ⟨(Lib.itoa (((((n:Int):Rat)/((d:Int):Rat)).den:Int)):List UInt8).toArray⟩)] L2 hB q2 ⟨rfl,rfl,trivial⟩ fun w7 st7 kp7 L2 hB=>?_
 refine sq_nil ?_
 refine k3 _ _ ?_
 try clear k3 K3
 refine wp_ret ?_
 refine bodyPost_ret (v:=(.agg #[(.string ⟨(Lib.itoa ((((n:Int):Rat)/((d:Int):Rat)).num):List UInt8).toArray⟩),(.string ⟨(Lib.itoa (((((n:Int):Rat)/((d:Int):Rat)).den:Int)):List UInt8).toArray⟩)])) (ret_cell _ _ _ rfl rfl L2 (by kernel_rfl)) rfl ⟨?_,hB⟩
 exact rfl

set_option maxRecDepth 100000 in
set_option maxHeartbeats 1000000 in
theorem cl_rat_n {K:Nat} {N cx:Nat} {F:Nat→Rat} (_hN:N≤1000) {w:World} (hs:Sl (ERat K) 71 4 w (.slice none N cx) (tb F N)):
    Calls Tryz.prog 54 #[(.slice none N cx)] w fun e w'=>(∃ u,e=.returned u∧Ow (ERat K) 71 4 w' w.heap.size u (tb F N))∧Gr w w':=by
 go_enter Tryz.func54,Tryz.ntmps54
 have hB:=Gr.refl w
 refine wp_seq_k (fun K10 k10=>?_)
 refine rg [0] ?_
 refine sv 2 (.slice none 0 0) ?_
 refine sq_nil ?_
 refine k10 _ _ ?_
 try clear k10 K10
 refine wp_seq_k (fun K11 k11=>?_)
 refine wp_seq_k (fun K12 k12=>?_)
 refine rg [0,1] ?_
 refine sv 3 (.slice none N cx) ?_
 refine sv 4 (.bool true) ?_
 refine sq_nil ?_
 refine k12 _ _ ?_
 try clear k12 K12
 refine wp_cond_true rfl ?_
 refine wp_seq_k (fun K13 k13=>?_)
 refine rg [0] ?_
 refine sv 2 (.slice none 0 0) ?_
 refine sq_nil ?_
 refine k13 _ _ ?_
 try clear k13 K13
 refine wp_ret ?_
 simp only [Exit.then]
 refine bodyPost_ret (v:=(.slice none 0 0)) (ret_tmp rfl rfl) rfl ⟨?_,hB⟩
 exact ⟨_,rfl,clone_none (hs.gr (stab_rat K) hB)⟩

set_option maxRecDepth 100000 in
set_option maxHeartbeats 1000000 in
theorem cl_rat_s {K:Nat} {N cx:Nat} {ad:Addr} {F:Nat→Rat} (_hN:N≤1000) {w:World} (hs:Sl (ERat K) 71 4 w (.slice (some ad) N cx) (tb F N)):
    Calls Tryz.prog 54 #[(.slice (some ad) N cx)] w fun e w'=>(∃ u,e=.returned u∧Ow (ERat K) 71 4 w' w.heap.size u (tb F N))∧Gr w w':=by
 go_enter Tryz.func54,Tryz.ntmps54
 have hB:=Gr.refl w
 refine wp_seq_k (fun K10 k10=>?_)
 refine rg [0] ?_
 refine sv 2 (.slice none 0 0) ?_
 refine sq_nil ?_
 refine k10 _ _ ?_
 try clear k10 K10
 refine wp_seq_k (fun K11 k11=>?_)
 refine wp_seq_k (fun K12 k12=>?_)
 refine rg [0,1] ?_
 refine sv 3 (.slice (some ad) N cx) ?_
 refine sv 4 (.bool false) ?_
 refine sq_nil ?_
 refine k12 _ _ ?_
 try clear k12 K12
 refine wp_cond_false rfl ?_
 refine wp_skip ?_
 refine k11 _ _ ?_
 try clear k11 K11
 refine wp_seq_k (fun K13 k13=>?_)
 refine rg [0,1,2,3] ?_
 refine se ?_
 refine eff_bs 71 0 #[] (some 5) rfl (fun _=>by kernel_rfl) (fun b14 w14 g14 L14 q14=>?_)
 replace q14:=Nat.le_trans (Below.size hB) q14
 replace hB:=hB.trans g14
 simp only [putl,p3,p4]
 refine sv 6 (.slice (some ad) N cx) ?_
 refine se ?_
 refine eff_aps (stab_rat K) _ _ 49 71 w.heap.size 71 (.agg #[(.bool false),(.slice none 0 0),(.bool false),(.slice none 0 0)]) (.slice (some ⟨b14,0,none⟩) 0 0) ([]:List Rat) (.slice (some ad) N cx) (tb F N) 4 (some 7) 64 rfl rfl rfl rfl (ow_empty (E:=(ERat K)) (c:=4) (B:=w.heap.size) L14 q14) (hs.gr (stab_rat K) hB) (one_rat _) (Below.size hB) (by simp only [List.length_nil,tb_len];omega) (by decide) (by kernel_rfl) (by kernel_rfl) (by decide) (by decide) (fun v15 w15 ow15 wt15 hg15 ag15=>?_)
 replace hB:=hg15 _ hB (Nat.le_refl _)
 replace ow15:=ow15.cast (List.nil_append _)
 simp only [putl,p3,p4]
 refine sv 2 v15 ?_
 refine sq_nil ?_
 refine k13 _ _ ?_
 try clear k13 K13
 refine wp_ret ?_
 refine bodyPost_ret (v:=v15) (ret_tmp rfl rfl) rfl ⟨?_,hB⟩
 exact ⟨_,rfl,ow15⟩

theorem cl_rat {K:Nat} {N:Nat} {v:Value} {F:Nat→Rat} (hN:N≤1000) {w:World} (h:Sl (ERat K) 71 4 w v (tb F N)):
    Calls Tryz.prog 54 #[v] w fun e w'=>(∃ u,e=.returned u∧Ow (ERat K) 71 4 w' w.heap.size u (tb F N))∧Gr w w':=by
  obtain ⟨ao,cap,hv,_⟩:=h.form
  rw [tb_len] at hv
  subst hv
  cases ao with
  | none=>exact cl_rat_n hN h
  | some ad=>exact cl_rat_s hN h
set_option maxRecDepth 100000 in
set_option maxHeartbeats 1000000 in
theorem cl_rows_n {K:Nat} {pp:Nat→Prop} {N cx:Nat} {F:Nat→(List Rat)} (_hN:N≤1000) {w:World} (hs:Sl (ERp pp (ERat K) 71 4) 49 1 w (.slice none N cx) (tb F N)):
    Calls Tryz.prog 88 #[(.slice none N cx)] w fun e w'=>(∃ u,e=.returned u∧Ow (ERp pp (ERat K) 71 4) 49 1 w' w.heap.size u (tb F N))∧Gr w w':=by
 go_enter Tryz.func88,Tryz.ntmps88
 have hB:=Gr.refl w
 refine wp_seq_k (fun K10 k10=>?_)
 refine rg [0] ?_
 refine sv 2 (.slice none 0 0) ?_
 refine sq_nil ?_
 refine k10 _ _ ?_
 try clear k10 K10
 refine wp_seq_k (fun K11 k11=>?_)
 refine wp_seq_k (fun K12 k12=>?_)
 refine rg [0,1] ?_
 refine sv 3 (.slice none N cx) ?_
 refine sv 4 (.bool true) ?_
 refine sq_nil ?_
 refine k12 _ _ ?_
 try clear k12 K12
 refine wp_cond_true rfl ?_
 refine wp_seq_k (fun K13 k13=>?_)
 refine rg [0] ?_
 refine sv 2 (.slice none 0 0) ?_
 refine sq_nil ?_
 refine k13 _ _ ?_
 try clear k13 K13
 refine wp_ret ?_
 simp only [Exit.then]
 refine bodyPost_ret (v:=(.slice none 0 0)) (ret_tmp rfl rfl) rfl ⟨?_,hB⟩
 exact ⟨_,rfl,clone_none (hs.gr (stab_rp (stab_rat K) 71 4) hB)⟩

set_option maxRecDepth 100000 in
set_option maxHeartbeats 1000000 in
theorem cl_rows_s {K:Nat} {pp:Nat→Prop} {N cx:Nat} {ad:Addr} {F:Nat→(List Rat)} (_hN:N≤1000) {w:World} (hs:Sl (ERp pp (ERat K) 71 4) 49 1 w (.slice (some ad) N cx) (tb F N)):
    Calls Tryz.prog 88 #[(.slice (some ad) N cx)] w fun e w'=>(∃ u,e=.returned u∧Ow (ERp pp (ERat K) 71 4) 49 1 w' w.heap.size u (tb F N))∧Gr w w':=by
 go_enter Tryz.func88,Tryz.ntmps88
 have hB:=Gr.refl w
 refine wp_seq_k (fun K10 k10=>?_)
 refine rg [0] ?_
 refine sv 2 (.slice none 0 0) ?_
 refine sq_nil ?_
 refine k10 _ _ ?_
 try clear k10 K10
 refine wp_seq_k (fun K11 k11=>?_)
 refine wp_seq_k (fun K12 k12=>?_)
 refine rg [0,1] ?_
 refine sv 3 (.slice (some ad) N cx) ?_
 refine sv 4 (.bool false) ?_
 refine sq_nil ?_
 refine k12 _ _ ?_
 try clear k12 K12
 refine wp_cond_false rfl ?_
 refine wp_skip ?_
 refine k11 _ _ ?_
 try clear k11 K11
 refine wp_seq_k (fun K13 k13=>?_)
 refine rg [0,1,2,3] ?_
 refine se ?_
 refine eff_bs 49 0 #[] (some 5) rfl (fun _=>by kernel_rfl) (fun b14 w14 g14 L14 q14=>?_)
 replace q14:=Nat.le_trans (Below.size hB) q14
 replace hB:=hB.trans g14
 simp only [putl,p3,p4]
 refine sv 6 (.slice (some ad) N cx) ?_
 refine se ?_
 refine eff_aps (stab_rp (stab_rat K) 71 4) _ _ 29 49 w.heap.size 49 (.slice none 0 0) (.slice (some ⟨b14,0,none⟩) 0 0) ([]:List (List Rat)) (.slice (some ad) N cx) (tb F N) 1 (some 7) 24 rfl rfl rfl rfl (ow_empty (E:=(ERp pp (ERat K) 71 4)) (c:=1) (B:=w.heap.size) L14 q14) (hs.gr (stab_rp (stab_rat K) 71 4) hB) (one_rp _) (Below.size hB) (by simp only [List.length_nil,tb_len];omega) (by decide) (by kernel_rfl) (by kernel_rfl) (by decide) (by decide) (fun v15 w15 ow15 wt15 hg15 ag15=>?_)
 replace hB:=hg15 _ hB (Nat.le_refl _)
 replace ow15:=ow15.cast (List.nil_append _)
 simp only [putl,p3,p4]
 refine sv 2 v15 ?_
 refine sq_nil ?_
 refine k13 _ _ ?_
 try clear k13 K13
 refine wp_ret ?_
 refine bodyPost_ret (v:=v15) (ret_tmp rfl rfl) rfl ⟨?_,hB⟩
 exact ⟨_,rfl,ow15⟩

theorem cl_rows {K:Nat} {pp:Nat→Prop} {N:Nat} {v:Value} {F:Nat→(List Rat)} (hN:N≤1000) {w:World} (h:Sl (ERp pp (ERat K) 71 4) 49 1 w v (tb F N)):
    Calls Tryz.prog 88 #[v] w fun e w'=>(∃ u,e=.returned u∧Ow (ERp pp (ERat K) 71 4) 49 1 w' w.heap.size u (tb F N))∧Gr w w':=by
  obtain ⟨ao,cap,hv,_⟩:=h.form
  rw [tb_len] at hv
  subst hv
  cases ao with
  | none=>exact cl_rows_n hN h
  | some ad=>exact cl_rows_s hN h
set_option maxRecDepth 100000 in
set_option maxHeartbeats 1000000 in
theorem sl_index {N:Nat} {v:Value} {P:Nat→Int} {z:Int} (_hN:N≤1000) {w:World} (hs:Sl EI64 3 1 w v (tb (fun z1=>(P z1)) N)):
    Calls Tryz.prog 95 #[v,(.int .i64 (z))] w fun e w'=>(∃ r:Int,e=.returned (.int .i64 r)∧decide ((0:Int)≤r)=hasI P N z)∧Gr w w':=by
 go_enter Tryz.func95,Tryz.ntmps95
 have hB:=Gr.refl w
 refine wp_seq_k (fun K10 k10=>?_)
 refine rg [0] ?_
 refine sv 4 (.int .i64 0) ?_
 refine sq_nil ?_
 refine k10 _ _ ?_
 try clear k10 K10
 refine wp_seq_k (fun K11 k11=>?_)
 refine wp_seq_k (fun K12 k12=>?_)
 refine rg [0,1,2] ?_
 refine sv 6 v ?_
 refine sw 7 (.int .i64 ((N:Int))) rfl (rv_lenn (e:=3) hs (tb_lenz rfl) _ _ rfl rfl (by kernel_rfl)) ?_
 refine sv 8 (.int .i64 0) ?_
 refine sq_nil ?_
 refine k12 _ _ ?_
 try clear k12 K12
 refine wp_block ?_
 refine wp_loop_inv (a:=⟨List.toArray ?l13,[]⟩) (fun n a w'=>∃ (k:Nat) (u13:Nat→Value),N - k=n∧a=⟨[v,(.int .i64 (z)),undef,undef,(u13 4),(u13 5),(u13 6),(.int .i64 ((N:Int))),(.int .i64 ((k:Int))),(u13 9),(u13 10),(u13 11),(u13 12),(u13 13),(u13 14),(u13 15),(u13 16),(u13 17),(u13 18)].toArray,[]⟩∧k≤N∧(∀ j,j<k→¬ P j=z)∧Gr w w') (N - 0) ?_ ?_
 ·exact ⟨0,(fun i=>List.getD ?l13 i undef),rfl,rfl,(Nat.zero_le _),(fun j h=>absurd h (Nat.not_lt_zero j)),hB⟩
 rintro n13 a13 w13 ⟨k,u13,rfl,rfl,hkk,hall,hB⟩ K13 k13
 refine wp_seq_k (fun K14 k14=>?_)
 refine rg [0] ?_
 refine sv 9 (.bool (decide ((k:Int)<(N:Int)))) ?_
 refine sq_nil ?_
 refine k14 _ _ ?_
 try clear k14 K14
 refine wp_seq_k (fun K15 k15=>?_)
 refine wp_cond_split (t:=decide ((k:Int)<(N:Int))) rfl (fun hb16=>?_) (fun hb16=>?_)
 ·have hlk:k<N:=by have:=of_decide_eq_true hb16;omega
  refine wp_skip ?_
  refine k15 _ _ ?_
  try clear k15 K15
  refine wp_seq_k (fun K17 k17=>?_)
  refine wp_block ?_
  refine wp_seq_k (fun K18 k18=>?_)
  refine rg [0,1] ?_
  refine sv 10 (.int .i64 ((k:Int))) ?_
  refine sv 5 (.int .i64 ((k:Int))) ?_
  refine sq_nil ?_
  refine k18 _ _ ?_
  try clear k18 K18
  refine wp_seq_k (fun K19 k19=>?_)
  refine rg [0,1,2,3,4,5] ?_
  refine sv 11 (.int .i64 (z)) ?_
  refine sv 12 v ?_
  refine sv 13 (.int .i64 ((k:Int))) ?_
  refine sw 14 (adr v (k*1)) rfl (rv_idxn (e:=3) hs tb_len (by decide) k (by omega) _ _ _ rfl rfl rfl (by kernel_rfl) (by kernel_rfl)) ?_
  obtain ⟨_,_,rfl,at20⟩:=Sl.get hs (by decide) (tb_get (f:=(fun z1=>(P z1))) (n:=N) (i:=k) (by omega))
  refine sw 15 (.int .i64 ((P k))) rfl (rv_ld1 (.int .i64 ((P k))) (at20.gr hB) _ _ rfl rfl (by kernel_rfl)) ?_
  refine sv 16 (.bool ((z==(P k)))) ?_
  refine sq_nil ?_
  refine k19 _ _ ?_
  try clear k19 K19
  refine wp_cond_split (t:=(z==(P k))) rfl (fun hb21=>?_) (fun hb21=>?_)
  ·have hxk:z=P k:=by have:=hb21;simpa using this
   refine wp_seq_k (fun K22 k22=>?_)
   refine rg [0,1] ?_
   refine sv 17 (.int .i64 ((k:Int))) ?_
   refine sv 4 (.int .i64 ((k:Int))) ?_
   refine sq_nil ?_
   refine k22 _ _ ?_
   try clear k22 K22
   refine wp_ret ?_
   simp only [Exit.then,Exit.inBlock]
   refine bodyPost_ret (v:=(.int .i64 ((k:Int)))) (ret_tmp rfl rfl) rfl ⟨?_,hB⟩
   exact ⟨_,rfl,hasI_yes hlk hxk⟩
  ·have hxk:¬ z=P k:=by have:=hb21;simpa using this
   refine wp_skip ?_
   refine k17 _ _ ?_
   try clear k17 K17
   refine rg [0,1] ?_
   refine sw 18 (.int .i64 (((k:Int)+1))) rfl (RunV.int (x:=IntKind.i64.wrap (((k:Int)+1))) (y:=((k:Int)+1)) (rvk (by kernel_rfl)) (by first | rfl | (rw [IntKind.wrap_i64];omega))) ?_
   refine sv 8 (.int .i64 (((k:Int)+1))) ?_
   refine sq_nil ?_
   refine k13 (N - (k+1)) ⟨List.toArray ?l23,[]⟩ _ (by omega) ?_
   exact ⟨k+1,(fun i=>List.getD ?l23 i undef),rfl,rfl,(by omega),(hall_succ hall hxk),hB⟩
 ·have hek:N=k:=by have:=of_decide_eq_false hb16;omega
  subst hek
  refine wp_exit ?_
  simp only [Exit.then,Exit.inBlock,↓reduceIte]
  refine k11 _ _ ?_
  try clear k11 K11
  refine wp_seq_k (fun K24 k24=>?_)
  refine rg [0] ?_
  refine sv 4 (.int .i64 (-1)) ?_
  refine sq_nil ?_
  refine k24 _ _ ?_
  try clear k24 K24
  refine wp_ret ?_
  refine bodyPost_ret (v:=(.int .i64 (-1))) (ret_tmp rfl rfl) rfl ⟨?_,hB⟩
  exact ⟨_,rfl,hasI_no hall⟩

set_option maxRecDepth 100000 in
set_option maxHeartbeats 1000000 in
theorem sl_contains {N:Nat} {v:Value} {P:Nat→Int} {z:Int} (hN:N≤1000) {w:World} (hs:Sl EI64 3 1 w v (tb (fun z1=>(P z1)) N)):
    Calls Tryz.prog 60 #[v,(.int .i64 (z))] w fun e w'=>e=.returned (.bool (hasI P N z))∧Gr w w':=by
 go_enter Tryz.func60,Tryz.ntmps60
 have hB:=Gr.refl w
 refine wp_seq_k (fun K10 k10=>?_)
 refine rg [0] ?_
 refine sv 4 (.bool false) ?_
 refine sq_nil ?_
 refine k10 _ _ ?_
 try clear k10 K10
 refine wp_seq_k (fun K11 k11=>?_)
 refine rg [0,1,2,3,4] ?_
 refine sv 5 v ?_
 refine sv 6 (.int .i64 (z)) ?_
 refine se ?_
 refine ec 7 (sl_index (z:=z) hN (hs.gr stab_i64 hB)) ?_
 rintro e12 w12 ⟨⟨r12,rfl,hr12⟩,g12⟩
 refine ⟨_,rfl,?_⟩
 replace hB:=hB.trans g12
 simp only [p3,p4]
 refine sv 8 (.bool (decide ((0:Int)≤r12))) ?_
 refine sv 4 (.bool (decide ((0:Int)≤r12))) ?_
 refine sq_nil ?_
 refine k11 _ _ ?_
 try clear k11 K11
 refine wp_ret ?_
 refine bodyPost_ret (v:=(.bool (decide ((0:Int)≤r12)))) (ret_tmp rfl rfl) rfl ⟨?_,hB⟩
 exact (by rw [hr12])

set_option maxRecDepth 100000 in
set_option maxHeartbeats 1000000 in
theorem f5_at_yes {N:Nat} {v:Value} {P:Nat→Int} {z:Int} (hh:hasI P N z=true) (_hN:N≤1000) {w:World} (hs:Sl EI64 3 1 w v (tb (fun z1=>(P z1)) N)):
    Calls Tryz.prog 62 #[v,(.int .i64 (z))] w fun e w'=>(∃ t:Nat,e=.returned (.int .i64 (t:Int))∧t<N∧P t=z)∧Gr w w':=by
 go_enter Tryz.func62,Tryz.ntmps62
 have hB:=Gr.refl w
 refine wp_seq_k (fun K10 k10=>?_)
 refine rg [0] ?_
 refine sv 4 (.int .i64 0) ?_
 refine sq_nil ?_
 refine k10 _ _ ?_
 try clear k10 K10
 refine wp_seq_k (fun K11 k11=>?_)
 refine wp_seq_k (fun K12 k12=>?_)
 refine rg [0] ?_
 refine sv 5 (.int .i64 0) ?_
 refine sq_nil ?_
 refine k12 _ _ ?_
 try clear k12 K12
 refine wp_block ?_
 refine wp_loop_inv (a:=⟨List.toArray ?l13,[]⟩) (fun n a w'=>∃ (k:Nat) (u13:Nat→Value),N - k=n∧a=⟨[v,(.int .i64 (z)),undef,undef,(u13 4),(.int .i64 ((k:Int))),(u13 6),(u13 7),(u13 8),(u13 9),(u13 10),(u13 11),(u13 12),(u13 13),(u13 14),(u13 15),(u13 16),(u13 17),(u13 18)].toArray,[]⟩∧k≤N∧(∀ j,j<k→¬ P j=z)∧Gr w w') (N - 0) ?_ ?_
 ·exact ⟨0,(fun i=>List.getD ?l13 i undef),rfl,rfl,(Nat.zero_le _),(fun j h=>absurd h (Nat.not_lt_zero j)),hB⟩
 rintro n13 a13 w13 ⟨k,u13,rfl,rfl,hkk,hall,hB⟩ K13 k13
 refine wp_seq_k (fun K14 k14=>?_)
 refine wp_seq_k (fun K15 k15=>?_)
 refine rg [0,1,2,3] ?_
 refine sv 6 (.int .i64 ((k:Int))) ?_
 refine sv 7 v ?_
 refine sw 8 (.int .i64 ((N:Int))) rfl (rv_lenn (e:=3) hs (tb_lenz rfl) _ _ rfl rfl (by kernel_rfl)) ?_
 refine sv 9 (.bool (decide ((k:Int)<(N:Int)))) ?_
 refine sq_nil ?_
 refine k15 _ _ ?_
 try clear k15 K15
 refine wp_cond_split (t:=decide ((k:Int)<(N:Int))) rfl (fun hb16=>?_) (fun hb16=>?_)
 ·have hlk:k<N:=by have:=of_decide_eq_true hb16;omega
  refine wp_skip ?_
  refine k14 _ _ ?_
  try clear k14 K14
  refine wp_seq_k (fun K17 k17=>?_)
  refine wp_block ?_
  refine wp_seq_k (fun K18 k18=>?_)
  refine rg [0,1,2,3,4,5] ?_
  refine sv 12 v ?_
  refine sv 13 (.int .i64 ((k:Int))) ?_
  refine sw 14 (adr v (k*1)) rfl (rv_idxn (e:=3) hs tb_len (by decide) k (by omega) _ _ _ rfl rfl rfl (by kernel_rfl) (by kernel_rfl)) ?_
  obtain ⟨_,_,rfl,at19⟩:=Sl.get hs (by decide) (tb_get (f:=(fun z1=>(P z1))) (n:=N) (i:=k) (by omega))
  refine sw 15 (.int .i64 ((P k))) rfl (rv_ld1 (.int .i64 ((P k))) (at19.gr hB) _ _ rfl rfl (by kernel_rfl)) ?_
  refine sv 16 (.int .i64 (z)) ?_
  refine sv 17 (.bool (((P k)==z))) ?_
  refine sq_nil ?_
  refine k18 _ _ ?_
  try clear k18 K18
  refine wp_cond_split (t:=((P k)==z)) rfl (fun hb20=>?_) (fun hb20=>?_)
  ·have hxk:P k=z:=by have:=hb20;simpa using this
   refine wp_seq_k (fun K21 k21=>?_)
   refine rg [0,1] ?_
   refine sv 18 (.int .i64 ((k:Int))) ?_
   refine sv 4 (.int .i64 ((k:Int))) ?_
   refine sq_nil ?_
   refine k21 _ _ ?_
   try clear k21 K21
   refine wp_ret ?_
   simp only [Exit.then,Exit.inBlock]
   refine bodyPost_ret (v:=(.int .i64 ((k:Int)))) (ret_tmp rfl rfl) rfl ⟨?_,hB⟩
   exact ⟨_,rfl,hlk,hxk⟩
  ·have hxk:¬ P k=z:=by have:=hb20;simpa using this
   refine wp_skip ?_
   refine k17 _ _ ?_
   try clear k17 K17
   refine rg [0,1,2] ?_
   refine sv 10 (.int .i64 ((k:Int))) ?_
   refine sw 11 (.int .i64 (((k:Int)+1))) rfl (RunV.int (x:=IntKind.i64.wrap (((k:Int)+1))) (y:=((k:Int)+1)) (rvk (by kernel_rfl)) (by first | rfl | (rw [IntKind.wrap_i64];omega))) ?_
   refine sv 5 (.int .i64 (((k:Int)+1))) ?_
   refine sq_nil ?_
   refine k13 (N - (k+1)) ⟨List.toArray ?l22,[]⟩ _ (by omega) ?_
   exact ⟨k+1,(fun i=>List.getD ?l22 i undef),rfl,rfl,(by omega),(hall_succ2 hall hxk),hB⟩
 ·have hek:N=k:=by have:=of_decide_eq_false hb16;omega
  subst hek
  refine wp_exit ?_
  simp only [Exit.then,Exit.inBlock,↓reduceIte]
  refine k11 _ _ ?_
  try clear k11 K11
  refine wp_seq_k (fun K23 k23=>?_)
  refine rg [0] ?_
  refine sv 4 (.int .i64 (-1)) ?_
  refine sq_nil ?_
  refine k23 _ _ ?_
  try clear k23 K23
  refine wp_ret ?_
  refine bodyPost_ret (v:=(.int .i64 (-1))) (ret_tmp rfl rfl) rfl ⟨?_,hB⟩
  exact (absurd hh (by rw [hasI_false hall];decide))

set_option maxRecDepth 100000 in
set_option maxHeartbeats 1000000 in
theorem f5_at_no {N:Nat} {v:Value} {P:Nat→Int} {z:Int} (hh:hasI P N z=false) (_hN:N≤1000) {w:World} (hs:Sl EI64 3 1 w v (tb (fun z1=>(P z1)) N)):
    Calls Tryz.prog 62 #[v,(.int .i64 (z))] w fun e w'=>e=.returned (.int .i64 (-1))∧Gr w w':=by
 go_enter Tryz.func62,Tryz.ntmps62
 have hB:=Gr.refl w
 refine wp_seq_k (fun K10 k10=>?_)
 refine rg [0] ?_
 refine sv 4 (.int .i64 0) ?_
 refine sq_nil ?_
 refine k10 _ _ ?_
 try clear k10 K10
 refine wp_seq_k (fun K11 k11=>?_)
 refine wp_seq_k (fun K12 k12=>?_)
 refine rg [0] ?_
 refine sv 5 (.int .i64 0) ?_
 refine sq_nil ?_
 refine k12 _ _ ?_
 try clear k12 K12
 refine wp_block ?_
 refine wp_loop_inv (a:=⟨List.toArray ?l13,[]⟩) (fun n a w'=>∃ (k:Nat) (u13:Nat→Value),N - k=n∧a=⟨[v,(.int .i64 (z)),undef,undef,(u13 4),(.int .i64 ((k:Int))),(u13 6),(u13 7),(u13 8),(u13 9),(u13 10),(u13 11),(u13 12),(u13 13),(u13 14),(u13 15),(u13 16),(u13 17),(u13 18)].toArray,[]⟩∧k≤N∧(∀ j,j<k→¬ P j=z)∧Gr w w') (N - 0) ?_ ?_
 ·exact ⟨0,(fun i=>List.getD ?l13 i undef),rfl,rfl,(Nat.zero_le _),(fun j h=>absurd h (Nat.not_lt_zero j)),hB⟩
 rintro n13 a13 w13 ⟨k,u13,rfl,rfl,hkk,hall,hB⟩ K13 k13
 refine wp_seq_k (fun K14 k14=>?_)
 refine wp_seq_k (fun K15 k15=>?_)
 refine rg [0,1,2,3] ?_
 refine sv 6 (.int .i64 ((k:Int))) ?_
 refine sv 7 v ?_
 refine sw 8 (.int .i64 ((N:Int))) rfl (rv_lenn (e:=3) hs (tb_lenz rfl) _ _ rfl rfl (by kernel_rfl)) ?_
 refine sv 9 (.bool (decide ((k:Int)<(N:Int)))) ?_
 refine sq_nil ?_
 refine k15 _ _ ?_
 try clear k15 K15
 refine wp_cond_split (t:=decide ((k:Int)<(N:Int))) rfl (fun hb16=>?_) (fun hb16=>?_)
 ·have hlk:k<N:=by have:=of_decide_eq_true hb16;omega
  refine wp_skip ?_
  refine k14 _ _ ?_
  try clear k14 K14
  refine wp_seq_k (fun K17 k17=>?_)
  refine wp_block ?_
  refine wp_seq_k (fun K18 k18=>?_)
  refine rg [0,1,2,3,4,5] ?_
  refine sv 12 v ?_
  refine sv 13 (.int .i64 ((k:Int))) ?_
  refine sw 14 (adr v (k*1)) rfl (rv_idxn (e:=3) hs tb_len (by decide) k (by omega) _ _ _ rfl rfl rfl (by kernel_rfl) (by kernel_rfl)) ?_
  obtain ⟨_,_,rfl,at19⟩:=Sl.get hs (by decide) (tb_get (f:=(fun z1=>(P z1))) (n:=N) (i:=k) (by omega))
  refine sw 15 (.int .i64 ((P k))) rfl (rv_ld1 (.int .i64 ((P k))) (at19.gr hB) _ _ rfl rfl (by kernel_rfl)) ?_
  refine sv 16 (.int .i64 (z)) ?_
  refine sv 17 (.bool (((P k)==z))) ?_
  refine sq_nil ?_
  refine k18 _ _ ?_
  try clear k18 K18
  refine wp_cond_split (t:=((P k)==z)) rfl (fun hb20=>?_) (fun hb20=>?_)
  ·have hxk:P k=z:=by have:=hb20;simpa using this
   refine wp_seq_k (fun K21 k21=>?_)
   refine rg [0,1] ?_
   refine sv 18 (.int .i64 ((k:Int))) ?_
   refine sv 4 (.int .i64 ((k:Int))) ?_
   refine sq_nil ?_
   refine k21 _ _ ?_
   try clear k21 K21
   refine wp_ret ?_
   simp only [Exit.then,Exit.inBlock]
   refine bodyPost_ret (v:=(.int .i64 ((k:Int)))) (ret_tmp rfl rfl) rfl ⟨?_,hB⟩
   exact (absurd hh (by rw [hasI_true hlk hxk];decide))
  ·have hxk:¬ P k=z:=by have:=hb20;simpa using this
   refine wp_skip ?_
   refine k17 _ _ ?_
   try clear k17 K17
   refine rg [0,1,2] ?_
   refine sv 10 (.int .i64 ((k:Int))) ?_
   refine sw 11 (.int .i64 (((k:Int)+1))) rfl (RunV.int (x:=IntKind.i64.wrap (((k:Int)+1))) (y:=((k:Int)+1)) (rvk (by kernel_rfl)) (by first | rfl | (rw [IntKind.wrap_i64];omega))) ?_
   refine sv 5 (.int .i64 (((k:Int)+1))) ?_
   refine sq_nil ?_
   refine k13 (N - (k+1)) ⟨List.toArray ?l22,[]⟩ _ (by omega) ?_
   exact ⟨k+1,(fun i=>List.getD ?l22 i undef),rfl,rfl,(by omega),(hall_succ2 hall hxk),hB⟩
 ·have hek:N=k:=by have:=of_decide_eq_false hb16;omega
  subst hek
  refine wp_exit ?_
  simp only [Exit.then,Exit.inBlock,↓reduceIte]
  refine k11 _ _ ?_
  try clear k11 K11
  refine wp_seq_k (fun K23 k23=>?_)
  refine rg [0] ?_
  refine sv 4 (.int .i64 (-1)) ?_
  refine sq_nil ?_
  refine k23 _ _ ?_
  try clear k23 K23
  refine wp_ret ?_
  refine bodyPost_ret (v:=(.int .i64 (-1))) (ret_tmp rfl rfl) rfl ⟨?_,hB⟩
  exact rfl

end Go.Proofs.YtepgkcimmdmgcaaGreatDoor
namespace Go.Proofs.YtepgkcimmdmgcaaGreatDoor
/-- behind k columns -/
def rs (R:Nat) (m:Mx_) (k:Nat):Rd:=redR R k ⟨m,[],1⟩
abbrev pl (R:Nat) (m:Mx_) (k:Nat):Nat:=(rs R m k).p.length
theorem rs_succ (R:Nat) (m:Mx_) (k:Nat):rs R m (k+1)=stepR R k (rs R m k):=rfl
/-- row i is the next pivot's -/
def Fd (R:Nat) (m:Mx_) (k i:Nat):Prop:=fnd (rs R m k).m k (R - (pl R m k)) (pl R m k)=some i
def aa (R:Nat) (m:Mx_) (k i:Nat):Mx_:=swp (rs R m k).m i (pl R m k)
def dd (R:Nat) (m:Mx_) (k i:Nat):Rat:=if i=(pl R m k) then (rs R m k).d else -(rs R m k).d
/-- the rows before j are done -/
def md (R:Nat) (m:Mx_) (k i j:Nat):Mx_:=fun t=>if t<j then (rs R m (k+1)).m t else scl (aa R m k i) (pl R m k) (1/aa R m k i (pl R m k) k) t
section
variable {R N k i:Nat} {m:Mx_}
theorem fd_of (h1:(pl R m k)≤i) (h2:i<R) (h3:(rs R m k).m i k≠0) (h4:∀ t,(pl R m k)≤t→t<i→(rs R m k).m t k=0):Fd R m k i:=by
  unfold Fd
  cases h:fnd (rs R m k).m k (R - (pl R m k)) (pl R m k) with
  | none=>exact absurd (fnd_none h i h1 (by omega)) h3
  | some j=>
    obtain ⟨a1,a2,a3,a4⟩:=fnd_some h
    rcases Nat.lt_trichotomy i j with hl | he | hg
    · exact absurd (a4 i h1 hl) h3
    · rw [he]
    · exact absurd (h4 j a1 hg) a3
theorem rs_none (h:∀ t,(pl R m k)≤t→t<R→(rs R m k).m t k=0):rs R m (k+1)=rs R m k:=step_no h
theorem Fd.step (h:Fd R m k i):rs R m (k+1)=⟨clr (scl (aa R m k i) (pl R m k) (1/aa R m k i (pl R m k) k)) (pl R m k) (fun j=>aa R m k i j k),(rs R m k).p++[k],dd R m k i*aa R m k i (pl R m k) k⟩:=by
  rw [rs_succ]
  unfold stepR
  rw [show fnd (rs R m k).m k (R - (pl R m k)) (pl R m k)=some i from h]
  rfl
theorem Fd.mm (h:Fd R m k i):(rs R m (k+1)).m=clr (scl (aa R m k i) (pl R m k) (1/aa R m k i (pl R m k) k)) (pl R m k) (fun j=>aa R m k i j k):=by rw [h.step]
theorem clr_r (a:Mx_) (r:Nat) (c:Nat→Rat) (k:Nat):clr a r c r k=a r k:=if_pos rfl
theorem clr_j (a:Mx_) {r j:Nat} (c:Nat→Rat) (k:Nat) (h:j≠r):clr a r c j k=a j k - c j*a r k:=if_neg h
theorem scl_r (a:Mx_) (r:Nat) (c:Rat) (k:Nat):scl a r c r k=a r k*c:=if_pos rfl
theorem scl_j (a:Mx_) {r j:Nat} (c:Rat) (k:Nat) (h:j≠r):scl a r c j k=a j k:=if_neg h
theorem Fd.lt (h:Fd R m k i):(pl R m k)≤i∧i<R:=by
  obtain ⟨a1,a2,_⟩:=fnd_some h
  omega
theorem Fd.ne (h:Fd R m k i):aa R m k i (pl R m k) k≠0:=by
  obtain ⟨a1,a2,a3,_⟩:=fnd_some h
  unfold aa swp
  by_cases e:(pl R m k)=i
  · rw [if_pos e,e];exact a3
  · rw [if_neg e,if_pos rfl];exact a3
theorem Fd.num (h:Fd R m k i):(aa R m k i (pl R m k) k).num≠0:=num_ne h.ne
theorem Fd.len (h:Fd R m k i):(rs R m (k+1)).p.length=(pl R m k)+1:=by rw [h.step];simp
theorem Fd.det (h:Fd R m k i):dd R m k i*aa R m k i (pl R m k) k=(rs R m (k+1)).d:=by rw [h.step]
theorem rs_len (R:Nat) (m:Mx_) (k:Nat):(pl R m k)≤R:=(red_inv R m 1 k).len
theorem rs_full {n:Nat} (h:¬ (pl R m k)<R) (hk:k≤n):rs R m n=rs R m k:=by
  have:=red_full (R:=R) (s:=⟨m,[],1⟩) (K:=k) (by have:=rs_len R m k;show (pl R m k)=R;omega) (n - k)
  rw [show k+(n - k)=n by omega] at this
  exact this
theorem aa_same (h:i=(pl R m k)):aa R m k i=(rs R m k).m:=by
  unfold aa swp
  funext j c
  rw [h]
  split
  · next e=>rw [e]
  · rfl
theorem dd_same (h:i=(pl R m k)):(rs R m k).d=dd R m k i:=by unfold dd;rw [if_pos h]
theorem dd_neg (h:¬ i=(pl R m k)):-(rs R m k).d=dd R m k i:=by unfold dd;rw [if_neg h]
theorem rows_same (h:i=(pl R m k)):tb (fun t=>tb (fun c=>(rs R m k).m t c) N) R=tb (fun t=>tb (fun c=>aa R m k i t c) N) R:=by rw [aa_same h]
theorem rows_swp (h:¬ i=(pl R m k)):tb (fun t=>if t=(pl R m k) then tb (fun c=>(rs R m k).m i c) N else if t=i then tb (fun c=>(rs R m k).m (pl R m k) c) N else tb (fun c=>(rs R m k).m t c) N) R=tb (fun t=>tb (fun c=>aa R m k i t c) N) R:=by
  refine tb_congr fun t _=>?_
  unfold aa swp
  by_cases h1:t=i
  · rw [if_neg (show ¬ t=_ from fun e=>h (h1.symm.trans e)),if_pos h1];simp only [if_pos h1]
  · simp only [if_neg h1]
    by_cases h2:t=(pl R m k)
    · simp only [if_pos h2]
    · simp only [if_neg h2]
theorem rows_over:tb (fun t=>if t=(pl R m k) then tb (fun c=>aa R m k i (pl R m k) c*(1/aa R m k i (pl R m k) k)) N else tb (fun c=>aa R m k i t c) N) R=tb (fun t=>tb (fun c=>md R m k i 0 t c) N) R:=by
  refine tb_congr fun t _=>?_
  unfold md scl
  simp only [Nat.not_lt_zero,if_false]
  by_cases h1:t=(pl R m k)
  · simp only [if_pos h1]
  · simp only [if_neg h1]
theorem md_at {j:Nat} (t:Nat) (ht:t≠j):md R m k i (j+1) t=md R m k i j t:=by
  unfold md
  by_cases h1:t<j
  · rw [if_pos h1,if_pos (by omega)]
  · rw [if_neg h1,if_neg (by omega)]
theorem md_j {j c:Nat} (hj:j≠(pl R m k)):md R m k i j j c=aa R m k i j c:=by
  unfold md scl;rw [if_neg (by omega),if_neg hj]
theorem Fd.md_r (h:Fd R m k i) (j c:Nat):md R m k i j (pl R m k) c=aa R m k i (pl R m k) c*(1/aa R m k i (pl R m k) k):=by
  unfold md
  split
  · rw [h.mm,clr_r,scl_r]
  · rw [scl_r]
theorem Fd.md_next (h:Fd R m k i) {j:Nat} (c:Nat) (hj:j≠(pl R m k)):md R m k i (j+1) j c=md R m k i j j c - md R m k i j j k*md R m k i j (pl R m k) c:=by
  rw [md_j hj,md_j hj,h.md_r]
  unfold md
  rw [if_pos (by omega),h.mm,clr_j _ _ _ hj,scl_r,scl_j _ _ _ hj]
theorem Fd.rows_yes (h:Fd R m k i) {j:Nat} (hj:¬ j=(pl R m k)):tb (fun t=>if t=j then tb (fun c=>md R m k i j j c - md R m k i j j k*md R m k i j (pl R m k) c) N else tb (fun c=>md R m k i j t c) N) R=tb (fun t=>tb (fun c=>md R m k i (j+1) t c) N) R:=by
  refine tb_congr fun t _=>?_
  by_cases h1:t=j
  · rw [if_pos h1,h1];exact tb_congr fun c _=>(h.md_next c hj).symm
  · rw [if_neg h1];exact tb_congr fun c _=>by rw [md_at t h1]
theorem Fd.rows_no (h:Fd R m k i) {j:Nat} (hj:j=(pl R m k)∨md R m k i j j k=0):tb (fun t=>tb (fun c=>md R m k i j t c) N) R=tb (fun t=>tb (fun c=>md R m k i (j+1) t c) N) R:=by
  refine tb_congr fun t _=>?_
  by_cases h1:t=j
  · refine tb_congr fun c _=>?_
    rw [h1]
    by_cases e:j=(pl R m k)
    · have h2:=h.md_r j c
      have h3:=h.md_r (j+1) c
      rw [← e] at h2 h3
      rw [h2,h3]
    · rcases hj with hj | hj
      · exact absurd hj e
      · rw [h.md_next c e,hj];grind
  · exact tb_congr fun c _=>by rw [md_at t h1]
theorem rows_end:tb (fun t=>tb (fun c=>md R m k i R t c) N) R=tb (fun t=>tb (fun c=>(rs R m (k+1)).m t c) N) R:=by
  refine tb_congr fun t ht=>?_
  unfold md;rw [if_pos ht]
theorem Fd.piv (h:Fd R m k i):tb (fun t=>((pv (rs R m k) t:Nat):Int)) (pl R m k)++[(k:Int)]=tb (fun t=>((pv (rs R m (k+1)) t:Nat):Int)) (rs R m (k+1)).p.length:=by
  rw [h.len]
  have e:(k:Int)=((pv (rs R m (k+1)) (pl R m k):Nat):Int):=by
    have:pv (rs R m (k+1)) (pl R m k)=k:=by rw [h.step];exact pv_new
    rw [this]
  rw [← tb_snoc (f:=fun t=>((pv (rs R m (k+1)) t:Nat):Int)) e]
  congr 1
  refine tb_congr fun t ht=>?_
  rw [h.step,pv_old ht]
variable {K:Nat}
theorem Fd.z_over (h:Fd R m k i) (hz:RdZ R N K (rs R m (k+1))):∀ c,c<N→RZ K K (aa R m k i (pl R m k) c*(1/aa R m k i (pl R m k) k)):=fun c hc=>by
  have h2:=hz.1 (pl R m k) (by have:=h.lt;omega) c hc
  rw [← h.md_r (k+(pl R m k)+1) c]
  unfold md;rw [if_pos (by omega)];exact h2
theorem Fd.z_less (h:Fd R m k i) (hz:RdZ R N K (rs R m (k+1))) {j:Nat} (hj:¬ j=(pl R m k)) (hR:j<R):∀ c,c<N→RZ K K (md R m k i j j c - md R m k i j j k*md R m k i j (pl R m k) c):=fun c hc=>by
  rw [← h.md_next c hj]
  unfold md;rw [if_pos (by omega)];exact hz.1 j hR c hc
theorem Fd.z_det (h:Fd R m k i) (hz:RdZ R N K (rs R m (k+1))):RZ K K (dd R m k i*aa R m k i (pl R m k) k):=by rw [h.det];exact hz.2
theorem zero_succ {r:Nat} {f:Nat→Rat} {t:Nat} (h:∀ u,r≤u→u<t→f u=0) (ht:f t=0):∀ u,r≤u→u<t+1→f u=0:=fun u h1 h2=>by
  rcases Nat.lt_or_eq_of_le (Nat.le_of_lt_succ h2) with h3 | rfl
  · exact h u h1 h3
  · exact ht
end
theorem bne_f {x y:Nat} (h:((x:Int) !=(y:Int))=false):x=y:=by simp at h;omega
theorem bne_t {x y:Nat} (h:((x:Int) !=(y:Int))=true):¬ x=y:=by simp at h;omega
theorem sgn_z {q:Rat} (h:(sgn q.num==(0:Int))=true):q=0:=Rat.num_eq_zero.1 (sgn_eq_zero.1 (by simpa using h))
theorem sgn_nez {q:Rat} (h:(sgn q.num==(0:Int))=false):q≠0:=fun e=>by subst e;exact absurd h (by decide)
theorem sgn_z' {q:Rat} (h:(sgn q.num !=(0:Int))=false):q=0:=Rat.num_eq_zero.1 (sgn_eq_zero.1 (by simpa using h))
theorem sgn_nez' {q:Rat} (h:(sgn q.num !=(0:Int))=true):q≠0:=fun e=>by subst e;exact absurd h (by decide)
end Go.Proofs.YtepgkcimmdmgcaaGreatDoor
namespace Go.Proofs.YtepgkcimmdmgcaaGreatDoor
open Go.RowKit

set_option maxRecDepth 100000 in
set_option maxHeartbeats 4000000 in
theorem mx_reduced {K R N M:Nat} {v:Value} {m:Mx_} (hM:64≤K) (_hK:K≤20000) (_hR:R≤300) (_hN:N≤300) (_hn:M≤N) (hz:∀ k,k≤M→RdZ R N K (rs R m k)) {w:World} (hs:Sl (ERw (ERat K) 71 4) 49 1 w v (tb (fun z0=>tb (fun z1=>(m z0 z1)) N) R)):
    Calls Tryz.prog 52 #[v,(.int .i64 ((M:Int)))] w fun e w'=>(∃ u v c0 c1 c2 c3,e=.returned (.tuple #[u,v,.agg #[c0,c1,c2,c3]])∧Sl (ERw (ERat K) 71 4) 49 1 w' u (tb (fun z0=>tb (fun z1=>((rs R m M).m z0 z1)) N) R)∧Sl EI64 3 1 w' v (tb (fun z1=>((pv (rs R m M) z1:Nat):Int)) (pl R m M))∧IsRat w' K c0 c1 c2 c3 (rs R m M).d)∧Gr w w':=by
 have hlen:=rs_len R m
 have hsl:=hs.lt_rows (by decide)
 go_enter Tryz.func52,Tryz.ntmps52
 have hB:=Gr.refl w
 refine wp_seq_k (fun K10 k10=>?_)
 refine rg [0,1,2] ?_
 refine sv 4 (.slice none 0 0) ?_
 refine sv 5 (.slice none 0 0) ?_
 refine se ?_
 refine ea 71 #[(.bool false),(.slice none 0 0),(.bool false),(.slice none 0 0)] 6 hB fun b11 w11 g11 L11 o11 q11 hB=>?_
 have qr11:=o11
 simp only [p3,p4]
 refine sq_nil ?_
 refine k10 _ _ ?_
 try clear k10 K10
 refine wp_seq_k (fun K12 k12=>?_)
 refine rg [0,1,2] ?_
 refine sv 14 v ?_
 refine se ?_
 have sz13:=Below.size hB
 refine ec 15 (cl_rows (by omega) (hsl.gr (stab_rp (stab_rat K) 71 4) hB)) ?_
 rintro e13 w13 ⟨⟨u13,rfl,hs13⟩,g13⟩
 refine ⟨_,rfl,?_⟩
 replace hB:=hB.trans g13
 replace hs13:=hs13.mono sz13
 simp only [p3,p4]
 refine sv 7 u13 ?_
 refine sq_nil ?_
 refine k12 _ _ ?_
 try clear k12 K12
 refine wp_seq_k (fun K14 k14=>?_)
 refine rg [0] ?_
 refine sv 8 (.slice none 0 0) ?_
 refine sq_nil ?_
 refine k14 _ _ ?_
 try clear k14 K14
 refine wp_seq_k (fun K15 k15=>?_)
 refine rg [0,1,2] ?_
 refine se ?_
 refine ec 16 (from_r (1) (by omega) (by omega) _) ?_
 rintro e16 w16 ⟨⟨p16,q16,r16,s16,rfl,h16⟩,g16⟩
 refine ⟨_,rfl,?_⟩
 replace hB:=hB.trans g16
 simp only [p3,p4]
 refine se ?_
 refine ea 71 #[(.bool false),(.slice none 0 0),(.bool false),(.slice none 0 0)] 9 hB fun b17 w17 g17 L17 o17 q17 hB=>?_
 replace L11:=L11.gr (g13.trans g16)
 have ne11_17:=L11.ne o17
 have qr17:=o17
 simp only [p3,p4]
 refine se ?_
 have lo18:=L17
 refine es 71 0 (.agg #[p16,q16,r16,s16]) [p16,q16,r16,s16] #[p16,q16,r16,s16] L17 hB q17 ⟨h16.one0,h16.one1,h16.one2,h16.one3,trivial⟩ fun w18 st18 kp18 L17 hB=>?_
 refine sq_nil ?_
 refine k15 _ _ ?_
 try clear k15 K15
 refine wp_seq_k (fun K19 k19=>?_)
 refine wp_seq_k (fun K20 k20=>?_)
 refine rg [0] ?_
 refine sv 10 (.int .i64 0) ?_
 refine sq_nil ?_
 refine k20 _ _ ?_
 try clear k20 K20
 refine wp_block ?_
 replace hs13:=hs13.gr (stab_rp (stab_rat K) 71 4) (st18.gr (g16.trans g17) (Nat.le_trans (Below.size g16) qr17))
 have kq22:=g17.kp.trans kp18
 replace h16:=h16.kp kq22
 replace L11:=st18.lc (L11.gr g17) ne11_17
 refine wp_loop_inv (a:=⟨List.toArray ?l21,[]⟩) (fun n a w'=>∃ (k:Nat) (vp:Value) (c0:Value) (c1:Value) (c2:Value) (c3:Value) (u21:Nat→Value),M - k=n∧a=⟨[v,(.int .i64 ((M:Int))),undef,undef,(.slice none 0 0),(.slice none 0 0),(.pointer (some ⟨b11,0,none⟩)),u13,vp,(.pointer (some ⟨b17,0,none⟩)),(.int .i64 ((k:Int))),(u21 11),(u21 12),(u21 13),(u21 14),(u21 15),(u21 16),(u21 17),(u21 18),(u21 19),(u21 20),(u21 21),(u21 22),(u21 23),(u21 24),(u21 25),(u21 26),(u21 27),(u21 28),(u21 29),(u21 30),(u21 31),(u21 32),(u21 33),(u21 34),(u21 35),(u21 36),(u21 37),(u21 38),(u21 39),(u21 40),(u21 41),(u21 42),(u21 43),(u21 44),(u21 45),(u21 46),(u21 47),(u21 48),(u21 49),(u21 50),(u21 51),(u21 52),(u21 53),(u21 54),(u21 55),(u21 56),(u21 57),(u21 58),(u21 59),(u21 60),(u21 61),(u21 62),(u21 63),(u21 64),(u21 65),(u21 66),(u21 67),(u21 68),(u21 69),(u21 70),(u21 71),(u21 72),(u21 73),(u21 74),(u21 75),(u21 76),(u21 77),(u21 78),(u21 79),(u21 80),(u21 81),(u21 82),(u21 83),(u21 84),(u21 85),(u21 86),(u21 87),(u21 88),(u21 89),(u21 90),(u21 91),(u21 92),(u21 93),(u21 94),(u21 95),(u21 96),(u21 97),(u21 98),(u21 99),(u21 100),(u21 101),(u21 102),(u21 103),(u21 104),(u21 105),(u21 106),(u21 107),(u21 108),(u21 109),(u21 110),(u21 111),(u21 112),(u21 113),(u21 114),(u21 115),(u21 116),(u21 117),(u21 118),(u21 119),(u21 120),(u21 121),(u21 122),(u21 123),(u21 124),(u21 125),(u21 126),(u21 127),(u21 128),(u21 129),(u21 130),(u21 131),(u21 132),(u21 133),(u21 134),(u21 135),(u21 136),(u21 137),(u21 138),undef,undef,undef].toArray,[]⟩∧k≤M∧Ow (ERp (fun g=>g≠b17∧g≠b11) (ERat K) 71 4) 49 1 w' w.heap.size u13 (tb (fun z0=>tb (fun z1=>((rs R m k).m z0 z1)) N) R)∧Ow EI64 3 1 w' w.heap.size vp (tb (fun z1=>((pv (rs R m k) z1:Nat):Int)) (pl R m k))∧IsRat w' K c0 c1 c2 c3 (rs R m k).d∧Lc w' b11 #[(.bool false),(.slice none 0 0),(.bool false),(.slice none 0 0)] 71∧Lc w' b17 #[c0,c1,c2,c3] 71∧Gr w w') (M - 0) ?_ ?_
 ·exact ⟨0,(.slice none 0 0),p16,q16,r16,s16,(fun i=>List.getD ?l21 i undef),rfl,rfl,(Nat.zero_le _),(Ow.mono_e hs13 (ERp.mono fun g hg=>⟨by have:=q17;omega,by have:=q11;omega⟩)),(Ow.nil _ _ _ _ _),((h16.castq (Rat.intCast_one)).mono (by omega)),L11,L17,hB⟩
 rintro n21 a21 w21 ⟨k,vp,c0,c1,c2,c3,u21,rfl,rfl,hk,ho,hpv,hd,L11,L17,hB⟩ K21 k21
 refine wp_seq_k (fun K23 k23=>?_)
 refine wp_seq_k (fun K24 k24=>?_)
 refine rg [0,1,2,3,4,5,6,7,8,9] ?_
 refine sv 17 (.int .i64 ((k:Int))) ?_
 refine sv 18 (.int .i64 ((M:Int))) ?_
 refine sv 19 (.bool (decide ((k:Int)<(M:Int)))) ?_
 rcases Bool.eq_false_or_eq_true (decide ((k:Int)<(M:Int))) with hb25 | hb25
 ·have hlk:k<M:=by have:=of_decide_eq_true hb25;omega
  have hz1:=hz (k+1) (by omega)
  have hz0:=hz k (by omega)
  refine sw 20 (.bool true) rfl (RunV.bool (x:=decide ((k:Int)<(M:Int))) (rvk (by kernel_rfl)) hb25) ?_
  refine sv 21 vp ?_
  refine sw 22 (.int .i64 (((pl R m k:Nat):Int))) rfl (rv_lenn (e:=3) hpv.sl (tb_lenz rfl) _ _ rfl rfl (by kernel_rfl)) ?_
  refine sv 23 u13 ?_
  refine sw 24 (.int .i64 ((R:Int))) rfl (rv_lenn (e:=49) ho.sl (tb_lenz rfl) _ _ rfl rfl (by kernel_rfl)) ?_
  refine sv 25 (.bool (decide (((pl R m k:Nat):Int)<(R:Int)))) ?_
  refine sv 26 (.bool (decide (((pl R m k:Nat):Int)<(R:Int)))) ?_
  refine sq_nil ?_
  refine k24 _ _ ?_
  try clear k24 K24
  refine wp_cond_split (t:=decide (((pl R m k:Nat):Int)<(R:Int))) rfl (fun hb26=>?_) (fun hb26=>?_)
  ·have hlr:pl R m k<R:=by have:=of_decide_eq_true hb26;omega
   refine wp_skip ?_
   refine k23 _ _ ?_
   try clear k23 K23
   refine wp_seq_k (fun K27 k27=>?_)
   refine wp_block ?_
   refine wp_seq_k (fun K28 k28=>?_)
   refine rg [0,1,2] ?_
   refine sv 29 vp ?_
   refine sw 30 (.int .i64 (((pl R m k:Nat):Int))) rfl (rv_lenn (e:=3) hpv.sl (tb_lenz rfl) _ _ rfl rfl (by kernel_rfl)) ?_
   refine sv 11 (.int .i64 (((pl R m k:Nat):Int))) ?_
   refine sq_nil ?_
   refine k28 _ _ ?_
   try clear k28 K28
   refine wp_seq_k (fun K29 k29=>?_)
   refine rg [0,1] ?_
   refine sv 31 (.int .i64 (((pl R m k:Nat):Int))) ?_
   refine sv 12 (.int .i64 (((pl R m k:Nat):Int))) ?_
   refine sq_nil ?_
   refine k29 _ _ ?_
   try clear k29 K29
   refine wp_seq_k (fun K30 k30=>?_)
   refine wp_block ?_
   refine wp_loop_inv (a:=⟨List.toArray ?l31,[]⟩) (fun n a w'=>∃ (i:Nat) (u31:Nat→Value),R - i=n∧a=⟨[v,(.int .i64 ((M:Int))),undef,undef,(.slice none 0 0),(.slice none 0 0),(.pointer (some ⟨b11,0,none⟩)),u13,vp,(.pointer (some ⟨b17,0,none⟩)),(.int .i64 ((k:Int))),(.int .i64 (((pl R m k:Nat):Int))),(.int .i64 ((i:Int))),(u21 13),(u31 14),(u31 15),(u31 16),(u31 17),(u31 18),(u31 19),(u31 20),(u31 21),(u31 22),(u31 23),(u31 24),(u31 25),(.bool (decide (((pl R m k:Nat):Int)<(R:Int)))),(u31 27),(u31 28),(u31 29),(u31 30),(u31 31),(u31 32),(u31 33),(u31 34),(u31 35),(u31 36),(u31 37),(u31 38),(u31 39),(u31 40),(u31 41),(u31 42),(u31 43),(u31 44),(u31 45),(u31 46),(u31 47),(u31 48),(u31 49),(u31 50),(u31 51),(u21 52),(u31 53),(u31 54),(u21 55),(u31 56),(u31 57),(u31 58),(u31 59),(u31 60),(u31 61),(u31 62),(u31 63),(u31 64),(u31 65),(u31 66),(u31 67),(u31 68),(u31 69),(u31 70),(u31 71),(u31 72),(u31 73),(u31 74),(u31 75),(u31 76),(u31 77),(u31 78),(u31 79),(u31 80),(u31 81),(u31 82),(u31 83),(u31 84),(u31 85),(u31 86),(u31 87),(u31 88),(u31 89),(u31 90),(u31 91),(u31 92),(u31 93),(u31 94),(u31 95),(u31 96),(u21 97),(u21 98),(u21 99),(u31 100),(u31 101),(u31 102),(u31 103),(u31 104),(u31 105),(u31 106),(u31 107),(u31 108),(u31 109),(u31 110),(u31 111),(u31 112),(u31 113),(u21 114),(u31 115),(u31 116),(u31 117),(u31 118),(u31 119),(u31 120),(u31 121),(u31 122),(u31 123),(u31 124),(u31 125),(u31 126),(u31 127),(u31 128),(u31 129),(u31 130),(u31 131),(u31 132),(u31 133),(u31 134),(u31 135),(u31 136),(u31 137),(u31 138),undef,undef,undef].toArray,[]⟩∧pl R m k≤i∧i≤R∧(∀ t,pl R m k≤t→t<i→(rs R m k).m t k=0)∧Ow (ERp (fun g=>g≠b17∧g≠b11) (ERat K) 71 4) 49 1 w' w.heap.size u13 (tb (fun z0=>tb (fun z1=>((rs R m k).m z0 z1)) N) R)∧Ow EI64 3 1 w' w.heap.size vp (tb (fun z1=>((pv (rs R m k) z1:Nat):Int)) (pl R m k))∧IsRat w' K c0 c1 c2 c3 (rs R m k).d∧Lc w' b11 #[(.bool false),(.slice none 0 0),(.bool false),(.slice none 0 0)] 71∧Lc w' b17 #[c0,c1,c2,c3] 71∧Gr w w') (R - pl R m k) ?_ ?_
   ·exact ⟨(pl R m k),(fun i=>List.getD ?l31 i undef),rfl,rfl,(Nat.le_refl _),(by omega),(fun t h1 h2=>absurd h2 (by omega)),ho,hpv,hd,L11,L17,hB⟩
   rintro n31 a31 w31 ⟨i,u31,rfl,rfl,hri,hiR,hzz,ho,hpv,hd,L11,L17,hB⟩ K31 k31
   refine wp_seq_k (fun K32 k32=>?_)
   refine wp_seq_k (fun K33 k33=>?_)
   refine rg [0,1,2,3,4,5,6,7,8,9,10,11,12,13,14] ?_
   refine sv 32 (.int .i64 ((i:Int))) ?_
   refine sv 33 u13 ?_
   refine sw 34 (.int .i64 ((R:Int))) rfl (rv_lenn (e:=49) ho.sl (tb_lenz rfl) _ _ rfl rfl (by kernel_rfl)) ?_
   refine sv 35 (.bool (decide ((i:Int)<(R:Int)))) ?_
   rcases Bool.eq_false_or_eq_true (decide ((i:Int)<(R:Int))) with hb34 | hb34
   ·have hli:i<R:=by have:=of_decide_eq_true hb34;omega
    refine sw 36 (.bool true) rfl (RunV.bool (x:=decide ((i:Int)<(R:Int))) (rvk (by kernel_rfl)) hb34) ?_
    refine sv 37 u13 ?_
    refine sv 38 (.int .i64 ((i:Int))) ?_
    refine sw 39 (adr u13 (i*1)) rfl (rv_idxn (e:=49) ho.sl tb_len (by decide) i (by omega) _ _ _ rfl rfl rfl (by kernel_rfl) (by kernel_rfl)) ?_
    obtain ⟨_,_,⟨u35,rfl,hr35,ha35⟩,at35⟩:=Sl.get (ho.sl) (by decide) (tb_get (f:=(fun z0=>tb (fun z1=>((rs R m k).m z0 z1)) N)) (n:=R) (i:=i) (by omega))
    refine sw 40 u35 rfl (rv_ld1 u35 at35 _ _ rfl rfl (by kernel_rfl)) ?_
    refine sv 41 (.int .i64 ((k:Int))) ?_
    refine sw 42 (adr u35 (k*4)) rfl (rv_idxn (e:=71) hr35 tb_len (by decide) k (by omega) _ _ _ rfl rfl rfl (by kernel_rfl) (by kernel_rfl)) ?_
    obtain ⟨_,_,⟨cA36,cB36,cC36,cD36,rfl,h36⟩,at36⟩:=Sl.get hr35 (by decide) (tb_get (f:=(fun z1=>((rs R m k).m i z1))) (n:=N) (i:=k) (by omega))
    refine sw 43 (.agg #[cA36,cB36,cC36,cD36]) rfl (rv_ldn [cA36,cB36,cC36,cD36] at36 _ _ rfl rfl (by kernel_rfl)) ?_
    refine se ?_
    refine ec 44 (sign_r h36) ?_
    rintro e37 w37 ⟨rfl,g37⟩
    refine ⟨_,rfl,?_⟩
    replace hB:=hB.trans g37
    simp only [p3,p4]
    refine sv 45 (.bool ((sgn (((rs R m k).m i k)).num==(0:Int)))) ?_
    refine sv 46 (.bool ((sgn (((rs R m k).m i k)).num==(0:Int)))) ?_
    refine sq_nil ?_
    refine k33 _ _ ?_
    try clear k33 K33
    refine wp_cond_split (t:=(sgn (((rs R m k).m i k)).num==(0:Int))) rfl (fun hb38=>?_) (fun hb38=>?_)
    ·have hzi:=sgn_z hb38
     refine wp_skip ?_
     refine k32 _ _ ?_
     try clear k32 K32
     refine wp_block ?_
     refine rg [0,1,2] ?_
     refine sv 47 (.int .i64 ((i:Int))) ?_
     refine sw 48 (.int .i64 (((i:Int)+1))) rfl (RunV.int (x:=IntKind.i64.wrap (((i:Int)+1))) (y:=((i:Int)+1)) (rvk (by kernel_rfl)) (by first | rfl | (rw [IntKind.wrap_i64];omega))) ?_
     refine sv 12 (.int .i64 (((i:Int)+1))) ?_
     refine sq_nil ?_
     replace ho:=ho.gr (stab_rp (stab_rat K) 71 4) g37
     replace hpv:=hpv.gr stab_i64 g37
     replace hd:=hd.kp g37.kp
     replace L11:=L11.gr g37
     replace L17:=L17.gr g37
     refine k31 (R - (i+1)) ⟨List.toArray ?l39,[]⟩ _ (by omega) ?_
     exact ⟨i+1,(fun i=>List.getD ?l39 i undef),rfl,rfl,(by omega),(by omega),(zero_succ hzz hzi),ho,hpv,hd,L11,L17,hB⟩
    ·have hf:Fd R m k i:=fd_of hri hli (sgn_nez hb38) hzz
     refine wp_exit ?_
     simp only [Exit.then,Exit.inBlock,↓reduceIte]
     refine k30 _ _ ?_
     try clear k30 K30
     refine wp_seq_k (fun K40 k40=>?_)
     refine wp_seq_k (fun K41 k41=>?_)
     refine rg [0,1,2,3] ?_
     refine sv 49 (.int .i64 ((i:Int))) ?_
     refine sv 50 u13 ?_
     refine sw 51 (.int .i64 ((R:Int))) rfl (rv_lenn (e:=49) ho.sl (tb_lenz rfl) _ _ rfl rfl (by kernel_rfl)) ?_
     have hb42:(((i:Int)==(R:Int)))=false:=(by simp;omega)
     refine sw 52 (.bool false) rfl (RunV.bool (x:=((i:Int)==(R:Int))) (rvk (by kernel_rfl)) hb42) ?_
     refine sq_nil ?_
     refine k41 _ _ ?_
     try clear k41 K41
     refine wp_cond_false rfl ?_
     refine wp_skip ?_
     refine k40 _ _ ?_
     try clear k40 K40
     refine wp_seq_cut (fun a w'=>∃ (d0:Value) (d1:Value) (d2:Value) (d3:Value) (u43:Nat→Value),a=⟨[v,(.int .i64 ((M:Int))),undef,undef,(.slice none 0 0),(.slice none 0 0),(.pointer (some ⟨b11,0,none⟩)),u13,vp,(.pointer (some ⟨b17,0,none⟩)),(.int .i64 ((k:Int))),(.int .i64 (((pl R m k:Nat):Int))),(.int .i64 ((i:Int))),(u21 13),(u43 14),(u43 15),(u43 16),(u43 17),(u43 18),(u43 19),(u43 20),(u43 21),(u43 22),(u43 23),(u43 24),(u43 25),(.bool (decide (((pl R m k:Nat):Int)<(R:Int)))),(u43 27),(u43 28),(u43 29),(u43 30),(u43 31),(u43 32),(u43 33),(u43 34),(u43 35),(u43 36),(u43 37),(u43 38),(u43 39),(u43 40),(u43 41),(u43 42),(u43 43),(u43 44),(u43 45),(.bool ((sgn (((rs R m k).m i k)).num==(0:Int)))),(u43 47),(u43 48),(u43 49),(u43 50),(u43 51),(.bool false),(u43 53),(u43 54),(u43 55),(u43 56),(u43 57),(u43 58),(u43 59),(u43 60),(u43 61),(u43 62),(u43 63),(u43 64),(u43 65),(u43 66),(u43 67),(u43 68),(u43 69),(u43 70),(u43 71),(u43 72),(u43 73),(u43 74),(u43 75),(u43 76),(u43 77),(u43 78),(u43 79),(u43 80),(u43 81),(u43 82),(u43 83),(u43 84),(u43 85),(u43 86),(u43 87),(u43 88),(u43 89),(u43 90),(u43 91),(u43 92),(u43 93),(u43 94),(u43 95),(u43 96),(u21 97),(u21 98),(u21 99),(u43 100),(u43 101),(u43 102),(u43 103),(u43 104),(u43 105),(u43 106),(u43 107),(u43 108),(u43 109),(u43 110),(u43 111),(u43 112),(u43 113),(u21 114),(u43 115),(u43 116),(u43 117),(u43 118),(u43 119),(u43 120),(u43 121),(u43 122),(u43 123),(u43 124),(u43 125),(u43 126),(u43 127),(u43 128),(u43 129),(u43 130),(u43 131),(u43 132),(u43 133),(u43 134),(u43 135),(u43 136),(u43 137),(u43 138),undef,undef,undef].toArray,[]⟩∧Ow (ERp (fun g=>g≠b17∧g≠b11) (ERat K) 71 4) 49 1 w' w.heap.size u13 (tb (fun z0=>tb (fun z1=>(aa R m k i z0 z1)) N) R)∧Ow EI64 3 1 w' w.heap.size vp (tb (fun z1=>((pv (rs R m k) z1:Nat):Int)) (pl R m k))∧IsRat w' K d0 d1 d2 d3 (dd R m k i)∧Lc w' b11 #[(.bool false),(.slice none 0 0),(.bool false),(.slice none 0 0)] 71∧Lc w' b17 #[d0,d1,d2,d3] 71∧Gr w w') (fun K43 k43=>?_) ?_
     ·refine wp_seq_k (fun K44 k44=>?_)
      refine rg [0,1,2] ?_
      refine sv 53 (.int .i64 ((i:Int))) ?_
      refine sv 54 (.int .i64 (((pl R m k:Nat):Int))) ?_
      refine sv 55 (.bool (((i:Int) !=((pl R m k:Nat):Int)))) ?_
      refine sq_nil ?_
      refine k44 _ _ ?_
      try clear k44 K44
      refine wp_cond_split (t:=((i:Int) !=((pl R m k:Nat):Int))) rfl (fun hb45=>?_) (fun hb45=>?_)
      ·have hne:¬ i=pl R m k:=bne_t hb45
       refine wp_seq_k (fun K46 k46=>?_)
       replace ho:=ho.gr (stab_rp (stab_rat K) 71 4) g37
       obtain ⟨_,_,⟨u52,rfl,hr52,ha52⟩,at52⟩:=Sl.get (ho.sl) (by decide) (tb_get (f:=(fun z0=>tb (fun z1=>((rs R m k).m z0 z1)) N)) (n:=R) (i:=(pl R m k)) (by omega))
       have gd53:=Gr.drew w37
       replace hB:=hB.trans gd53
       replace at35:=at35.gr (g37.trans gd53)
       replace at52:=at52.gr gd53
       refine wp_region_ort (fun _=>True) [([13,15],(fun w'=>AtV w' u13 (i*1) [u35])),([13,15],(fun w'=>AtV w' u13 ((pl R m k)*1) [u52]))] [(true,0),(true,1),(true,2),(true,3),(true,4),(true,5),(true,6),(true,7),(true,8),(true,9),(true,10),(true,11),(true,12),(false,13),(true,14),(false,15)] (by kernel_rfl) (by kernel_rfl) (by kernel_rfl) (by decide) (fun _ _ _ _ _ h=>h) trivial ⟨fun _=>at35,fun _=>at52,trivial⟩ ?_
       refine tv 56 u13 ?_
       refine tv 57 (.int .i64 ((i:Int))) ?_
       refine tv 58 u13 ?_
       refine tv 59 (.int .i64 (((pl R m k:Nat):Int))) ?_
       refine tv 60 u13 ?_
       refine tv 61 (.int .i64 (((pl R m k:Nat):Int))) ?_
       refine tw 62 (adr u13 ((pl R m k)*1)) rfl (fun w' hS=>(rv_idxn (e:=49) ho.sl tb_len (by decide) (pl R m k) (by omega) _ _ _ rfl rfl rfl (by kernel_rfl) (by kernel_rfl))) ?_
       refine tw 63 u52 rfl (fun w' hS=>(rv_ld1 u52 (hS.2.2.1 (by kernel_rfl)) _ _ rfl rfl (by kernel_rfl))) ?_
       refine tv 64 u13 ?_
       refine tv 65 (.int .i64 ((i:Int))) ?_
       refine tw 66 (adr u13 (i*1)) rfl (fun w' hS=>(rv_idxn (e:=49) ho.sl tb_len (by decide) i (by omega) _ _ _ rfl rfl rfl (by kernel_rfl) (by kernel_rfl))) ?_
       refine tw 67 u35 rfl (fun w' hS=>(rv_ld1 u35 (hS.2.1 (by kernel_rfl)) _ _ rfl rfl (by kernel_rfl))) ?_
       refine tw 68 (adr u13 (i*1)) rfl (fun w' hS=>(rv_idxn (e:=49) ho.sl tb_len (by decide) i (by omega) _ _ _ rfl rfl rfl (by kernel_rfl) (by kernel_rfl))) ?_
       refine te ?_
       replace hr52:=hr52.gr (stab_rat K) gd53
       replace ho:=ho.gr (stab_rp (stab_rat K) 71 4) gd53
       refine eff_sto (stab_rp (stab_rat K) 71 4) ho i (by rw [tb_len];omega) (tb (fun z1=>((rs R m k).m (pl R m k) z1)) N) u52 [u52] 49 _ _ rfl rfl rfl rfl (cells_one hr52.one) (by kernel_rfl) rfl ⟨hr52.one,trivial⟩ ⟨_,rfl,hr52,ha52⟩ (by decide) (fun w55 ow55 wt55 hg55=>?_)
       replace hB:=hg55 _ hB (Nat.le_refl _)
       replace ow55:=ow55.cast set_tb
       refine ⟨trivial,⟨cameT (by kernel_rfl),cameT (by kernel_rfl),trivial⟩,?_⟩
       refine tw 69 (adr u13 ((pl R m k)*1)) rfl (fun w' hS=>(rv_idxn (e:=49) ow55.sl tb_len (by decide) (pl R m k) (by omega) _ _ _ rfl rfl rfl (by kernel_rfl) (by kernel_rfl))) ?_
       refine te ?_
       replace hr35:=((hr35.gr (stab_rat K) g37).gr (stab_rat K) gd53).kts (stab_rat K) (wt55.kts (by decide))
       refine eff_sto (stab_rp (stab_rat K) 71 4) ow55 (pl R m k) (by rw [tb_len];omega) (tb (fun z1=>((rs R m k).m i z1)) N) u35 [u35] 49 _ _ rfl rfl rfl rfl (cells_one hr35.one) (by kernel_rfl) rfl ⟨hr35.one,trivial⟩ ⟨_,rfl,hr35,ha35⟩ (by decide) (fun w57 ow57 wt57 hg57=>?_)
       replace hB:=hg57 _ hB (Nat.le_refl _)
       replace ow57:=ow57.cast set_tb
       refine ⟨trivial,⟨cameT (by kernel_rfl),cameT (by kernel_rfl),trivial⟩,?_⟩
       refine ort_nil ?_
       refine k46 _ _ ?_
       try clear k46 K46
       refine rg [0,1,2] ?_
       replace L17:=wt57.lc (wt55.lc (L17.gr (g37.trans gd53)) (by decide)) (by decide)
       refine sw 70 (.agg #[c0,c1,c2,c3]) rfl (rl 71 0 [c0,c1,c2,c3] L17) ?_
       refine se ?_
       have kq59:=g37.kp.trans (gd53.kp.trans ((wt55.kp (by decide)).trans (wt57.kp (by decide))))
       replace hd:=hd.kp kq59
       refine ec 71 (neg_r hd) ?_
       rintro e58 w58 ⟨⟨p58,q58,r58,s58,rfl,h58⟩,g58⟩
       refine ⟨_,rfl,?_⟩
       replace hB:=hB.trans g58
       simp only [p3,p4]
       refine se ?_
       replace L17:=L17.gr g58
       have lo60:=L17
       refine es 71 0 (.agg #[p58,q58,r58,s58]) [p58,q58,r58,s58] #[p58,q58,r58,s58] L17 hB q17 ⟨h58.one0,h58.one1,h58.one2,h58.one3,trivial⟩ fun w60 st60 kp60 L17 hB=>?_
       refine sq_nil ?_
       replace ow57:=(ow57.gr (stab_rp (stab_rat K) 71 4) g58).stav (fun _ h=>h.1) (stab_rat K) st60 lo60 (by decide) (by decide)
       replace hpv:=(((((hpv.gr stab_i64 g37).gr stab_i64 gd53).kts stab_i64 (wt55.kts (by decide))).kts stab_i64 (wt57.kts (by decide))).gr stab_i64 g58).kts stab_i64 (st60.kts lo60 (by decide))
       replace h58:=h58.kp kp60
       replace L11:=st60.lc ((wt57.lc (wt55.lc (L11.gr (g37.trans gd53)) (by decide)) (by decide)).gr g58) ne11_17
       refine k43 ⟨List.toArray ?l61,[]⟩ _ ?_
       exact ⟨p58,q58,r58,s58,(fun i=>List.getD ?l61 i undef),rfl,(ow57.cast (rows_swp hne)),hpv,(h58.castq (dd_neg hne)),L11,L17,hB⟩
      ·have heq:i=pl R m k:=bne_f hb45
       refine wp_skip ?_
       replace ho:=ho.gr (stab_rp (stab_rat K) 71 4) g37
       replace hpv:=hpv.gr stab_i64 g37
       replace hd:=hd.kp g37.kp
       replace L11:=L11.gr g37
       replace L17:=L17.gr g37
       refine k43 ⟨List.toArray ?l62,[]⟩ _ ?_
       exact ⟨c0,c1,c2,c3,(fun i=>List.getD ?l62 i undef),rfl,(ho.cast (rows_same heq)),hpv,(hd.castq (dd_same heq)),L11,L17,hB⟩
     rintro a43 w43 ⟨d0,d1,d2,d3,u43,rfl,ho,hpv,hd,L11,L17,hB⟩
     refine wp_seq_k (fun K63 k63=>?_)
     obtain ⟨_,_,⟨u70,rfl,hr70,ha70⟩,at70⟩:=Sl.get (ho.sl) (by decide) (tb_get (f:=(fun z0=>tb (fun z1=>(aa R m k i z0 z1)) N)) (n:=R) (i:=(pl R m k)) (by omega))
     obtain ⟨_,_,⟨cA71,cB71,cC71,cD71,rfl,h71⟩,at71⟩:=Sl.get hr70 (by decide) (tb_get (f:=(fun z1=>(aa R m k i (pl R m k) z1))) (n:=N) (i:=k) (by omega))
     have gd72:=Gr.drew w43
     replace hB:=hB.trans gd72
     replace L17:=L17.gr gd72
     replace at70:=at70.gr gd72
     replace at71:=at71.gr gd72
     refine wp_region_ort (fun _=>True) [([9],(fun w'=>Lc w' b17 #[d0,d1,d2,d3] 71)),([9],(fun w'=>AtV w' u13 ((pl R m k)*1) [u70])),([9],(fun w'=>AtV w' u70 (k*4) [cA71,cB71,cC71,cD71]))] [(true,0),(true,1),(true,2),(true,3),(true,4),(true,5),(true,6),(true,7),(false,8),(false,9)] (by kernel_rfl) (by kernel_rfl) (by kernel_rfl) (by decide) (fun _ _ _ _ _ h=>h) trivial ⟨fun _=>L17,fun _=>at70,fun _=>at71,trivial⟩ ?_
     refine tw 72 (.agg #[d0,d1,d2,d3]) rfl (fun w' hS=>(rl 71 0 [d0,d1,d2,d3] (hS.2.1 (by kernel_rfl)))) ?_
     refine tv 73 u13 ?_
     refine tv 74 (.int .i64 (((pl R m k:Nat):Int))) ?_
     refine tw 75 (adr u13 ((pl R m k)*1)) rfl (fun w' hS=>(rv_idxn (e:=49) ho.sl tb_len (by decide) (pl R m k) (by omega) _ _ _ rfl rfl rfl (by kernel_rfl) (by kernel_rfl))) ?_
     refine tw 76 u70 rfl (fun w' hS=>(rv_ld1 u70 (hS.2.2.1 (by kernel_rfl)) _ _ rfl rfl (by kernel_rfl))) ?_
     refine tv 77 (.int .i64 ((k:Int))) ?_
     refine tw 78 (adr u70 (k*4)) rfl (fun w' hS=>(rv_idxn (e:=71) hr70 tb_len (by decide) k (by omega) _ _ _ rfl rfl rfl (by kernel_rfl) (by kernel_rfl))) ?_
     refine tw 79 (.agg #[cA71,cB71,cC71,cD71]) rfl (fun w' hS=>(rv_ldn [cA71,cB71,cC71,cD71] (hS.2.2.2.1 (by kernel_rfl)) _ _ rfl rfl (by kernel_rfl))) ?_
     refine te ?_
     replace hd:=hd.kp gd72.kp
     replace h71:=h71.kp gd72.kp
     refine ec 80 (mul_r hd h71 (by omega)) ?_
     rintro e74 w74 ⟨⟨p74,q74,r74,s74,rfl,h74⟩,g74⟩
     refine ⟨_,rfl,?_⟩
     replace hB:=hB.trans g74
     replace L17:=L17.gr g74
     replace at70:=at70.gr g74
     replace at71:=at71.gr g74
     refine ⟨trivial,⟨fun _=>L17,fun _=>at70,fun _=>at71,trivial⟩,?_⟩
     simp only [p3,p4]
     refine te ?_
     have lo76:=L17
     refine es 71 0 (.agg #[p74,q74,r74,s74]) [p74,q74,r74,s74] #[p74,q74,r74,s74] L17 hB q17 ⟨h74.one0,h74.one1,h74.one2,h74.one3,trivial⟩ fun w76 st76 kp76 L17 hB=>?_
     refine ⟨trivial,⟨cameT (by kernel_rfl),cameT (by kernel_rfl),cameT (by kernel_rfl),trivial⟩,?_⟩
     refine ort_nil ?_
     refine k63 _ _ ?_
     try clear k63 K63
     refine wp_seq_k (fun K77 k77=>?_)
     replace ho:=((ho.gr (stab_rp (stab_rat K) 71 4) gd72).gr (stab_rp (stab_rat K) 71 4) g74).stav (fun _ h=>h.1) (stab_rat K) st76 lo76 (by decide) (by decide)
     obtain ⟨_,_,⟨u83,rfl,hr83,ha83⟩,at83⟩:=Sl.get (ho.sl) (by decide) (tb_get (f:=(fun z0=>tb (fun z1=>(aa R m k i z0 z1)) N)) (n:=R) (i:=(pl R m k)) (by omega))
     obtain ⟨_,_,⟨cA84,cB84,cC84,cD84,rfl,h84⟩,at84⟩:=Sl.get hr83 (by decide) (tb_get (f:=(fun z1=>(aa R m k i (pl R m k) z1))) (n:=N) (i:=k) (by omega))
     have gd85:=Gr.drew w76
     replace hB:=hB.trans gd85
     replace at83:=at83.gr gd85
     replace at84:=at84.gr gd85
     refine wp_region_ort (fun _=>True) [([15],(fun w'=>AtV w' u13 ((pl R m k)*1) [u83])),([15],(fun w'=>AtV w' u83 (k*4) [cA84,cB84,cC84,cD84]))] [(true,0),(true,1),(true,2),(true,3),(true,4),(true,5),(true,6),(true,7),(true,8),(true,9),(true,10),(true,11),(true,12),(false,13),(true,14),(false,15)] (by kernel_rfl) (by kernel_rfl) (by kernel_rfl) (by decide) (fun _ _ _ _ _ h=>h) trivial ⟨fun _=>at83,fun _=>at84,trivial⟩ ?_
     refine tv 81 u13 ?_
     refine tv 82 (.int .i64 (((pl R m k:Nat):Int))) ?_
     refine tv 83 u13 ?_
     refine tv 84 (.int .i64 (((pl R m k:Nat):Int))) ?_
     refine tw 85 (adr u13 ((pl R m k)*1)) rfl (fun w' hS=>(rv_idxn (e:=49) ho.sl tb_len (by decide) (pl R m k) (by omega) _ _ _ rfl rfl rfl (by kernel_rfl) (by kernel_rfl))) ?_
     refine tw 86 u83 rfl (fun w' hS=>(rv_ld1 u83 (hS.2.1 (by kernel_rfl)) _ _ rfl rfl (by kernel_rfl))) ?_
     refine tv 87 u13 ?_
     refine tv 88 (.int .i64 (((pl R m k:Nat):Int))) ?_
     refine tw 89 (adr u13 ((pl R m k)*1)) rfl (fun w' hS=>(rv_idxn (e:=49) ho.sl tb_len (by decide) (pl R m k) (by omega) _ _ _ rfl rfl rfl (by kernel_rfl) (by kernel_rfl))) ?_
     refine tw 90 u83 rfl (fun w' hS=>(rv_ld1 u83 (hS.2.1 (by kernel_rfl)) _ _ rfl rfl (by kernel_rfl))) ?_
     refine tv 91 (.int .i64 ((k:Int))) ?_
     refine tw 92 (adr u83 (k*4)) rfl (fun w' hS=>(rv_idxn (e:=71) hr83 tb_len (by decide) k (by omega) _ _ _ rfl rfl rfl (by kernel_rfl) (by kernel_rfl))) ?_
     refine tw 93 (.agg #[cA84,cB84,cC84,cD84]) rfl (fun w' hS=>(rv_ldn [cA84,cB84,cC84,cD84] (hS.2.2.1 (by kernel_rfl)) _ _ rfl rfl (by kernel_rfl))) ?_
     refine te ?_
     replace L17:=L17.gr gd85
     replace L11:=(st76.lc (L11.gr (gd72.trans g74)) ne11_17).gr gd85
     replace hr83:=hr83.gr (stab_rat K) gd85
     replace h84:=h84.kp gd85.kp
     have lb87:=L17.lt
     have lc87:=L11.lt
     refine ec 94 (mx_over h84 (by omega) hM (by omega) hf.num (hf.z_over hz1) hr83) ?_
     rintro e87 w87 ⟨⟨u87,rfl,hs87,hnw87⟩,g87⟩
     refine ⟨_,rfl,?_⟩
     replace hB:=hB.trans g87
     replace at83:=at83.gr g87
     replace at84:=at84.gr g87
     refine ⟨trivial,⟨fun _=>at83,fun _=>at84,trivial⟩,?_⟩
     simp only [p3,p4]
     refine tw 95 (adr u13 ((pl R m k)*1)) rfl (fun w' hS=>(rv_idxn (e:=49) ho.sl tb_len (by decide) (pl R m k) (by omega) _ _ _ rfl rfl rfl (by kernel_rfl) (by kernel_rfl))) ?_
     refine te ?_
     replace ho:=ho.gr (stab_rp (stab_rat K) 71 4) (gd85.trans g87)
     refine eff_sto (stab_rp (stab_rat K) 71 4) ho (pl R m k) (by rw [tb_len];omega) (tb (fun z1=>(aa R m k i (pl R m k) z1*(1/aa R m k i (pl R m k) k))) N) u87 [u87] 49 _ _ rfl rfl rfl rfl (cells_one hs87.one) (by kernel_rfl) rfl ⟨hs87.one,trivial⟩ ⟨_,rfl,hs87,hnw87.av (fun g hg=>⟨by have:=lb87;omega,by have:=lc87;omega⟩)⟩ (by decide) (fun w89 ow89 wt89 hg89=>?_)
     replace hB:=hg89 _ hB (Nat.le_refl _)
     replace ow89:=ow89.cast set_tb
     refine ⟨trivial,⟨cameT (by kernel_rfl),cameT (by kernel_rfl),trivial⟩,?_⟩
     refine ort_nil ?_
     refine k77 _ _ ?_
     try clear k77 K77
     refine wp_seq_k (fun K90 k90=>?_)
     refine wp_seq_k (fun K91 k91=>?_)
     refine rg [0,1,2] ?_
     refine sv 96 u13 ?_
     refine sw 97 (.int .i64 ((R:Int))) rfl (rv_lenn (e:=49) ow89.sl (tb_lenz rfl) _ _ rfl rfl (by kernel_rfl)) ?_
     refine sv 98 (.int .i64 0) ?_
     refine sq_nil ?_
     refine k91 _ _ ?_
     try clear k91 K91
     refine wp_block ?_
     replace hpv:=(((((hpv.gr stab_i64 gd72).gr stab_i64 g74).kts stab_i64 (st76.kts lo76 (by decide))).gr stab_i64 gd85).gr stab_i64 g87).kts stab_i64 (wt89.kts (by decide))
     have kq93:=kp76.trans (gd85.kp.trans (g87.kp.trans (wt89.kp (by decide))))
     replace h74:=h74.kp kq93
     replace L11:=wt89.lc (L11.gr g87) (by decide)
     replace L17:=wt89.lc (L17.gr g87) (by decide)
     refine wp_loop_inv (a:=⟨List.toArray ?l92,[]⟩) (fun n a w'=>∃ (j:Nat) (u92:Nat→Value),R - j=n∧a=⟨[v,(.int .i64 ((M:Int))),undef,undef,(.slice none 0 0),(.slice none 0 0),(.pointer (some ⟨b11,0,none⟩)),u13,vp,(.pointer (some ⟨b17,0,none⟩)),(.int .i64 ((k:Int))),(.int .i64 (((pl R m k:Nat):Int))),(.int .i64 ((i:Int))),(u92 13),(u92 14),(u92 15),(u92 16),(u92 17),(u92 18),(u92 19),(u92 20),(u92 21),(u92 22),(u92 23),(u92 24),(u92 25),(.bool (decide (((pl R m k:Nat):Int)<(R:Int)))),(u92 27),(u92 28),(u92 29),(u92 30),(u92 31),(u92 32),(u92 33),(u92 34),(u92 35),(u92 36),(u92 37),(u92 38),(u92 39),(u92 40),(u92 41),(u92 42),(u92 43),(u92 44),(u92 45),(.bool ((sgn (((rs R m k).m i k)).num==(0:Int)))),(u92 47),(u92 48),(u92 49),(u92 50),(u92 51),(.bool false),(u92 53),(u92 54),(u43 55),(u92 56),(u92 57),(u92 58),(u92 59),(u92 60),(u92 61),(u92 62),(u92 63),(u92 64),(u92 65),(u92 66),(u92 67),(u92 68),(u92 69),(u92 70),(u92 71),(u92 72),(u92 73),(u92 74),(u92 75),(u92 76),(u92 77),(u92 78),(u92 79),(u92 80),(u92 81),(u92 82),(u92 83),(u92 84),(u92 85),(u92 86),(u92 87),(u92 88),(u92 89),(u92 90),(u92 91),(u92 92),(u92 93),(u92 94),(u92 95),(u92 96),(.int .i64 ((R:Int))),(.int .i64 ((j:Int))),(u92 99),(u92 100),(u92 101),(u92 102),(u92 103),(u92 104),(u92 105),(u92 106),(u92 107),(u92 108),(u92 109),(u92 110),(u92 111),(u92 112),(u92 113),(u92 114),(u92 115),(u92 116),(u92 117),(u92 118),(u92 119),(u92 120),(u92 121),(u92 122),(u92 123),(u92 124),(u92 125),(u92 126),(u92 127),(u92 128),(u92 129),(u92 130),(u92 131),(u92 132),(u92 133),(u92 134),(u92 135),(u92 136),(u92 137),(u92 138),undef,undef,undef].toArray,[]⟩∧j≤R∧Ow (ERp (fun g=>g≠b17∧g≠b11) (ERat K) 71 4) 49 1 w' w.heap.size u13 (tb (fun z0=>tb (fun z1=>(md R m k i j z0 z1)) N) R)∧Ow EI64 3 1 w' w.heap.size vp (tb (fun z1=>((pv (rs R m k) z1:Nat):Int)) (pl R m k))∧IsRat w' K p74 q74 r74 s74 (dd R m k i*aa R m k i (pl R m k) k)∧Lc w' b11 #[(.bool false),(.slice none 0 0),(.bool false),(.slice none 0 0)] 71∧Lc w' b17 #[p74,q74,r74,s74] 71∧Gr w w') (R - 0) ?_ ?_
     ·exact ⟨0,(fun i=>List.getD ?l92 i undef),rfl,rfl,(Nat.zero_le _),(ow89.cast rows_over),hpv,(IsRat.resz h74 (hf.z_det hz1) hM),L11,L17,hB⟩
     rintro n92 a92 w92 ⟨j,u92,rfl,rfl,hj,ho,hpv,hd,L11,L17,hB⟩ K92 k92
     refine wp_seq_k (fun K94 k94=>?_)
     refine rg [0] ?_
     refine sv 99 (.bool (decide ((j:Int)<(R:Int)))) ?_
     refine sq_nil ?_
     refine k94 _ _ ?_
     try clear k94 K94
     refine wp_seq_k (fun K95 k95=>?_)
     refine wp_cond_split (t:=decide ((j:Int)<(R:Int))) rfl (fun hb96=>?_) (fun hb96=>?_)
     ·have hlj:j<R:=by have:=of_decide_eq_true hb96;omega
      refine wp_skip ?_
      refine k95 _ _ ?_
      try clear k95 K95
      refine wp_seq_k (fun K97 k97=>?_)
      refine wp_block ?_
      refine wp_seq_k (fun K98 k98=>?_)
      refine rg [0,1] ?_
      refine sv 100 (.int .i64 ((j:Int))) ?_
      refine sv 13 (.int .i64 ((j:Int))) ?_
      refine sq_nil ?_
      refine k98 _ _ ?_
      try clear k98 K98
      refine wp_seq_k (fun K99 k99=>?_)
      refine rg [0,1,2,3,4,5,6,7,8,9,10,11,12,13] ?_
      refine sv 101 (.int .i64 ((j:Int))) ?_
      refine sv 102 (.int .i64 (((pl R m k:Nat):Int))) ?_
      refine sv 103 (.bool (((j:Int) !=((pl R m k:Nat):Int)))) ?_
      rcases Bool.eq_false_or_eq_true (((j:Int) !=((pl R m k:Nat):Int))) with hb100 | hb100
      ·have hnj:¬ j=pl R m k:=bne_t hb100
       refine sw 104 (.bool true) rfl (RunV.bool (x:=((j:Int) !=((pl R m k:Nat):Int))) (rvk (by kernel_rfl)) hb100) ?_
       refine sv 105 u13 ?_
       refine sv 106 (.int .i64 ((j:Int))) ?_
       refine sw 107 (adr u13 (j*1)) rfl (rv_idxn (e:=49) ho.sl tb_len (by decide) j (by omega) _ _ _ rfl rfl rfl (by kernel_rfl) (by kernel_rfl)) ?_
       obtain ⟨_,_,⟨u101,rfl,hr101,ha101⟩,at101⟩:=Sl.get (ho.sl) (by decide) (tb_get (f:=(fun z0=>tb (fun z1=>(md R m k i j z0 z1)) N)) (n:=R) (i:=j) (by omega))
       refine sw 108 u101 rfl (rv_ld1 u101 at101 _ _ rfl rfl (by kernel_rfl)) ?_
       refine sv 109 (.int .i64 ((k:Int))) ?_
       refine sw 110 (adr u101 (k*4)) rfl (rv_idxn (e:=71) hr101 tb_len (by decide) k (by omega) _ _ _ rfl rfl rfl (by kernel_rfl) (by kernel_rfl)) ?_
       obtain ⟨_,_,⟨cA102,cB102,cC102,cD102,rfl,h102⟩,at102⟩:=Sl.get hr101 (by decide) (tb_get (f:=(fun z1=>(md R m k i j j z1))) (n:=N) (i:=k) (by omega))
       refine sw 111 (.agg #[cA102,cB102,cC102,cD102]) rfl (rv_ldn [cA102,cB102,cC102,cD102] at102 _ _ rfl rfl (by kernel_rfl)) ?_
       refine se ?_
       refine ec 112 (sign_r h102) ?_
       rintro e103 w103 ⟨rfl,g103⟩
       refine ⟨_,rfl,?_⟩
       replace hB:=hB.trans g103
       simp only [p3,p4]
       refine sv 113 (.bool ((sgn ((md R m k i j j k)).num !=(0:Int)))) ?_
       refine sv 114 (.bool ((sgn ((md R m k i j j k)).num !=(0:Int)))) ?_
       refine sq_nil ?_
       refine k99 _ _ ?_
       try clear k99 K99
       refine wp_cond_split (t:=(sgn ((md R m k i j j k)).num !=(0:Int))) rfl (fun hb104=>?_) (fun hb104=>?_)
       ·have hnz:=sgn_nez' hb104
        replace ho:=ho.gr (stab_rp (stab_rat K) 71 4) g103
        obtain ⟨_,_,⟨u111,rfl,hr111,ha111⟩,at111⟩:=Sl.get (ho.sl) (by decide) (tb_get (f:=(fun z0=>tb (fun z1=>(md R m k i j z0 z1)) N)) (n:=R) (i:=(pl R m k)) (by omega))
        have gd112:=Gr.drew w103
        replace hB:=hB.trans gd112
        replace at101:=at101.gr (g103.trans gd112)
        replace at102:=at102.gr (g103.trans gd112)
        replace at111:=at111.gr gd112
        refine wp_region_ort (fun _=>True) [([19],(fun w'=>AtV w' u13 (j*1) [u101])),([19],(fun w'=>AtV w' u101 (k*4) [cA102,cB102,cC102,cD102])),([19],(fun w'=>AtV w' u13 ((pl R m k)*1) [u111]))] [(true,0),(true,1),(true,2),(true,3),(true,4),(true,5),(true,6),(true,7),(true,8),(true,9),(true,10),(true,11),(true,12),(true,13),(true,14),(true,15),(true,16),(false,17),(true,18),(false,19)] (by kernel_rfl) (by kernel_rfl) (by kernel_rfl) (by decide) (fun _ _ _ _ _ h=>h) trivial ⟨fun _=>at101,fun _=>at102,fun _=>at111,trivial⟩ ?_
        refine tv 115 u13 ?_
        refine tv 116 (.int .i64 ((j:Int))) ?_
        refine tv 117 u13 ?_
        refine tv 118 (.int .i64 ((j:Int))) ?_
        refine tw 119 (adr u13 (j*1)) rfl (fun w' hS=>(rv_idxn (e:=49) ho.sl tb_len (by decide) j (by omega) _ _ _ rfl rfl rfl (by kernel_rfl) (by kernel_rfl))) ?_
        refine tw 120 u101 rfl (fun w' hS=>(rv_ld1 u101 (hS.2.1 (by kernel_rfl)) _ _ rfl rfl (by kernel_rfl))) ?_
        refine tv 121 u13 ?_
        refine tv 122 (.int .i64 (((pl R m k:Nat):Int))) ?_
        refine tw 123 (adr u13 ((pl R m k)*1)) rfl (fun w' hS=>(rv_idxn (e:=49) ho.sl tb_len (by decide) (pl R m k) (by omega) _ _ _ rfl rfl rfl (by kernel_rfl) (by kernel_rfl))) ?_
        refine tw 124 u111 rfl (fun w' hS=>(rv_ld1 u111 (hS.2.2.2.1 (by kernel_rfl)) _ _ rfl rfl (by kernel_rfl))) ?_
        refine tv 125 u13 ?_
        refine tv 126 (.int .i64 ((j:Int))) ?_
        refine tw 127 (adr u13 (j*1)) rfl (fun w' hS=>(rv_idxn (e:=49) ho.sl tb_len (by decide) j (by omega) _ _ _ rfl rfl rfl (by kernel_rfl) (by kernel_rfl))) ?_
        refine tw 128 u101 rfl (fun w' hS=>(rv_ld1 u101 (hS.2.1 (by kernel_rfl)) _ _ rfl rfl (by kernel_rfl))) ?_
        refine tv 129 (.int .i64 ((k:Int))) ?_
        refine tw 130 (adr u101 (k*4)) rfl (fun w' hS=>(rv_idxn (e:=71) hr101 tb_len (by decide) k (by omega) _ _ _ rfl rfl rfl (by kernel_rfl) (by kernel_rfl))) ?_
        refine tw 131 (.agg #[cA102,cB102,cC102,cD102]) rfl (fun w' hS=>(rv_ldn [cA102,cB102,cC102,cD102] (hS.2.2.1 (by kernel_rfl)) _ _ rfl rfl (by kernel_rfl))) ?_
        refine te ?_
        replace L17:=L17.gr (g103.trans gd112)
        replace L11:=L11.gr (g103.trans gd112)
        replace hr101:=hr101.gr (stab_rat K) (g103.trans gd112)
        replace hr111:=hr111.gr (stab_rat K) gd112
        have kq115:=g103.kp.trans gd112.kp
        replace h102:=h102.kp kq115
        have lb114:=L17.lt
        have lc114:=L11.lt
        refine ec 132 (mx_less h102 (by omega) hM (by omega) (hf.z_less hz1 hnj hlj) hr101 hr111) ?_
        rintro e114 w114 ⟨⟨u114,rfl,hs114,hnw114⟩,g114⟩
        refine ⟨_,rfl,?_⟩
        replace hB:=hB.trans g114
        replace at101:=at101.gr g114
        replace at102:=at102.gr g114
        replace at111:=at111.gr g114
        refine ⟨trivial,⟨fun _=>at101,fun _=>at102,fun _=>at111,trivial⟩,?_⟩
        simp only [p3,p4]
        refine tw 133 (adr u13 (j*1)) rfl (fun w' hS=>(rv_idxn (e:=49) ho.sl tb_len (by decide) j (by omega) _ _ _ rfl rfl rfl (by kernel_rfl) (by kernel_rfl))) ?_
        refine te ?_
        replace ho:=ho.gr (stab_rp (stab_rat K) 71 4) (gd112.trans g114)
        refine eff_sto (stab_rp (stab_rat K) 71 4) ho j (by rw [tb_len];omega) (tb (fun z1=>(md R m k i j j z1 - md R m k i j j k*md R m k i j (pl R m k) z1)) N) u114 [u114] 49 _ _ rfl rfl rfl rfl (cells_one hs114.one) (by kernel_rfl) rfl ⟨hs114.one,trivial⟩ ⟨_,rfl,hs114,hnw114.av (fun g hg=>⟨by have:=lb114;omega,by have:=lc114;omega⟩)⟩ (by decide) (fun w117 ow117 wt117 hg117=>?_)
        replace hB:=hg117 _ hB (Nat.le_refl _)
        replace ow117:=ow117.cast set_tb
        refine ⟨trivial,⟨cameT (by kernel_rfl),cameT (by kernel_rfl),cameT (by kernel_rfl),trivial⟩,?_⟩
        refine ort_nil ?_
        refine k97 _ _ ?_
        try clear k97 K97
        refine rg [0,1] ?_
        refine sw 134 (.int .i64 (((j:Int)+1))) rfl (RunV.int (x:=IntKind.i64.wrap (((j:Int)+1))) (y:=((j:Int)+1)) (rvk (by kernel_rfl)) (by first | rfl | (rw [IntKind.wrap_i64];omega))) ?_
        refine sv 98 (.int .i64 (((j:Int)+1))) ?_
        refine sq_nil ?_
        replace hpv:=(((hpv.gr stab_i64 g103).gr stab_i64 gd112).gr stab_i64 g114).kts stab_i64 (wt117.kts (by decide))
        have kq118:=g103.kp.trans (gd112.kp.trans (g114.kp.trans (wt117.kp (by decide))))
        replace hd:=hd.kp kq118
        replace L11:=wt117.lc (L11.gr g114) (by decide)
        replace L17:=wt117.lc (L17.gr g114) (by decide)
        refine k92 (R - (j+1)) ⟨List.toArray ?l119,[]⟩ _ (by omega) ?_
        exact ⟨j+1,(fun i=>List.getD ?l119 i undef),rfl,rfl,(by omega),(ow117.cast (hf.rows_yes hnj)),hpv,hd,L11,L17,hB⟩
       ·have hnz:=sgn_z' hb104
        refine wp_skip ?_
        refine k97 _ _ ?_
        try clear k97 K97
        refine rg [0,1] ?_
        refine sw 134 (.int .i64 (((j:Int)+1))) rfl (RunV.int (x:=IntKind.i64.wrap (((j:Int)+1))) (y:=((j:Int)+1)) (rvk (by kernel_rfl)) (by first | rfl | (rw [IntKind.wrap_i64];omega))) ?_
        refine sv 98 (.int .i64 (((j:Int)+1))) ?_
        refine sq_nil ?_
        replace ho:=ho.gr (stab_rp (stab_rat K) 71 4) g103
        replace hpv:=hpv.gr stab_i64 g103
        replace hd:=hd.kp g103.kp
        replace L11:=L11.gr g103
        replace L17:=L17.gr g103
        refine k92 (R - (j+1)) ⟨List.toArray ?l120,[]⟩ _ (by omega) ?_
        exact ⟨j+1,(fun i=>List.getD ?l120 i undef),rfl,rfl,(by omega),(ho.cast (hf.rows_no (.inr hnz))),hpv,hd,L11,L17,hB⟩
      ·have hej:j=pl R m k:=bne_f hb100
       refine swk 104 (.bool false) [(4,105),(5,106),(6,107),(7,108),(8,109),(9,110),(10,111),(11,112),(12,113)] rfl (RunV.bool (x:=((j:Int) !=((pl R m k:Nat):Int))) (rvk (by kernel_rfl)) hb100) ?_
       refine sv 114 (.bool false) ?_
       refine sq_nil ?_
       refine k99 _ _ ?_
       try clear k99 K99
       refine wp_cond_false rfl ?_
       refine wp_skip ?_
       refine k97 _ _ ?_
       try clear k97 K97
       refine rg [0,1] ?_
       refine sw 134 (.int .i64 (((j:Int)+1))) rfl (RunV.int (x:=IntKind.i64.wrap (((j:Int)+1))) (y:=((j:Int)+1)) (rvk (by kernel_rfl)) (by first | rfl | (rw [IntKind.wrap_i64];omega))) ?_
       refine sv 98 (.int .i64 (((j:Int)+1))) ?_
       refine sq_nil ?_
       refine k92 (R - (j+1)) ⟨List.toArray ?l121,[]⟩ _ (by omega) ?_
       exact ⟨j+1,(fun i=>List.getD ?l121 i undef),rfl,rfl,(by omega),(ho.cast (hf.rows_no (.inl hej))),hpv,hd,L11,L17,hB⟩
     ·have hej:R=j:=by have:=of_decide_eq_false hb96;omega
      subst hej
      refine wp_exit ?_
      simp only [Exit.then,Exit.inBlock,↓reduceIte]
      refine k90 _ _ ?_
      try clear k90 K90
      refine rg [0,1,2,3,4] ?_
      refine sv 135 vp ?_
      refine sv 136 (.int .i64 ((k:Int))) ?_
      refine se ?_
      refine eff_bs 3 1 #[(.int .i64 ((k:Int)))] (some 137) rfl (fun _=>by kernel_rfl) (fun b122 w122 g122 L122 q122=>?_)
      have qr122:=q122
      replace hB:=hB.trans g122
      simp only [putl,p3,p4]
      refine se ?_
      replace hpv:=hpv.gr stab_i64 g122
      refine eff_apg stab_i64 _ _ 30 3 w.heap.size (.int .i64 0) vp (tb (fun z1=>((pv (rs R m k) z1:Nat):Int)) (pl R m k)) b122 [(.int .i64 ((k:Int)))] ((k:Int):Int) 1 1 (some 138) 8 rfl rfl rfl rfl hpv L122 ⟨rfl,trivial⟩ rfl rfl (Below.size hB) (by rw [tb_len];omega) (by decide) (by kernel_rfl) (by kernel_rfl) (by decide) (by decide) (fun v123 w123 ow123 wt123 hg123=>?_)
      replace hB:=hg123 _ hB (Nat.le_refl _)
      replace ow123:=ow123.cast hf.piv
      simp only [putl,p3,p4]
      refine sv 8 v123 ?_
      refine sq_nil ?_
      refine k27 _ _ ?_
      try clear k27 K27
      refine rg [0,1,2] ?_
      refine sv 27 (.int .i64 ((k:Int))) ?_
      refine sw 28 (.int .i64 (((k:Int)+1))) rfl (RunV.int (x:=IntKind.i64.wrap (((k:Int)+1))) (y:=((k:Int)+1)) (rvk (by kernel_rfl)) (by first | rfl | (rw [IntKind.wrap_i64];omega))) ?_
      refine sv 10 (.int .i64 (((k:Int)+1))) ?_
      refine sq_nil ?_
      replace ho:=(ho.gr (stab_rp (stab_rat K) 71 4) g122).kts (stab_rp (stab_rat K) 71 4) (wt123.kts (by decide))
      have kq124:=g122.kp.trans (wt123.kp (by decide))
      replace hd:=hd.kp kq124
      replace L11:=wt123.lc (L11.gr g122) (by decide)
      replace L17:=wt123.lc (L17.gr g122) (by decide)
      refine k21 (M - (k+1)) ⟨List.toArray ?l125,[]⟩ _ (by omega) ?_
      exact ⟨k+1,v123,p74,q74,r74,s74,(fun i=>List.getD ?l125 i undef),rfl,rfl,(by omega),(ho.cast rows_end),ow123,(hd.castq hf.det),L11,L17,hB⟩
   ·have hei:R=i:=by have:=of_decide_eq_false hb34;omega
    refine swk 36 (.bool false) [(5,37),(6,38),(7,39),(8,40),(9,41),(10,42),(11,43),(12,44),(13,45)] rfl (RunV.bool (x:=decide ((i:Int)<(R:Int))) (rvk (by kernel_rfl)) hb34) ?_
    refine sv 46 (.bool false) ?_
    refine sq_nil ?_
    refine k33 _ _ ?_
    try clear k33 K33
    refine wp_cond_false rfl ?_
    refine wp_exit ?_
    simp only [Exit.then,Exit.inBlock,↓reduceIte]
    refine k30 _ _ ?_
    try clear k30 K30
    refine wp_seq_k (fun K126 k126=>?_)
    refine wp_seq_k (fun K127 k127=>?_)
    refine rg [0,1,2,3] ?_
    refine sv 49 (.int .i64 ((i:Int))) ?_
    refine sv 50 u13 ?_
    refine sw 51 (.int .i64 ((R:Int))) rfl (rv_lenn (e:=49) ho.sl (tb_lenz rfl) _ _ rfl rfl (by kernel_rfl)) ?_
    have hst:rs R m (k+1)=rs R m k:=rs_none fun t h1 h2=>hzz t h1 (by omega)
    have hb128:(((i:Int)==(R:Int)))=true:=(by simp;omega)
    refine sw 52 (.bool true) rfl (RunV.bool (x:=((i:Int)==(R:Int))) (rvk (by kernel_rfl)) hb128) ?_
    refine sq_nil ?_
    refine k127 _ _ ?_
    try clear k127 K127
    refine wp_cond_true rfl ?_
    refine wp_exit ?_
    simp only [Exit.then,Exit.inBlock,↓reduceIte]
    refine k27 _ _ ?_
    try clear k27 K27
    refine rg [0,1,2] ?_
    refine sv 27 (.int .i64 ((k:Int))) ?_
    refine sw 28 (.int .i64 (((k:Int)+1))) rfl (RunV.int (x:=IntKind.i64.wrap (((k:Int)+1))) (y:=((k:Int)+1)) (rvk (by kernel_rfl)) (by first | rfl | (rw [IntKind.wrap_i64];omega))) ?_
    refine sv 10 (.int .i64 (((k:Int)+1))) ?_
    refine sq_nil ?_
    refine k21 (M - (k+1)) ⟨List.toArray ?l129,[]⟩ _ (by omega) ?_
    exact ⟨k+1,vp,c0,c1,c2,c3,(fun i=>List.getD ?l129 i undef),rfl,rfl,(by omega),(by rw [hst];exact ho),(by unfold pl;rw [hst];exact hpv),(by rw [hst];exact hd),L11,L17,hB⟩
  ·have hff:rs R m M=rs R m k:=rs_full (by have:=of_decide_eq_false hb26;omega) (by omega)
   refine wp_exit ?_
   simp only [Exit.then,Exit.inBlock,↓reduceIte]
   refine k19 _ _ ?_
   try clear k19 K19
   refine wp_seq_k (fun K130 k130=>?_)
   have gd134:=Gr.drew w21
   replace hB:=hB.trans gd134
   replace L17:=L17.gr gd134
   refine wp_region_ord (fun w'=>Lc w' b17 #[c0,c1,c2,c3] 71) [(true,0),(true,1),(true,2),(true,3),(true,4),(false,5)] (by kernel_rfl) (by kernel_rfl) (by kernel_rfl) (by decide) (fun _ _ _ _ _ h=>h) L17 ?_
   refine ov 139 u13 ?_
   refine ov 140 vp ?_
   refine ow 141 (.agg #[c0,c1,c2,c3]) rfl (fun w' hS=>(rl 71 0 [c0,c1,c2,c3] hS)) ?_
   refine ov 4 u13 ?_
   refine ov 5 vp ?_
   refine oe ?_
   replace L11:=L11.gr gd134
   have lo136:=L11
   refine es 71 0 (.agg #[c0,c1,c2,c3]) [c0,c1,c2,c3] #[c0,c1,c2,c3] L11 hB q11 ⟨hd.one0,hd.one1,hd.one2,hd.one3,trivial⟩ fun w136 st136 kp136 L11 hB=>?_
   replace L17:=st136.lc L17 (Ne.symm ne11_17)
   refine ⟨L17,?_⟩
   refine ord_nil ?_
   refine k130 _ _ ?_
   try clear k130 K130
   refine wp_ret ?_
   refine bodyPost_ret (v:=(.tuple #[u13,vp,(.agg #[c0,c1,c2,c3])])) (ret_tmp2_cell _ _ _ rfl rfl rfl rfl L11 (by kernel_rfl)) rfl ⟨?_,hB⟩
   replace ho:=(ho.gr (stab_rp (stab_rat K) 71 4) gd134).stav (fun _ h=>h.2) (stab_rat K) st136 lo136 (by decide) (by decide)
   replace hpv:=(hpv.gr stab_i64 gd134).kts stab_i64 (st136.kts lo136 (by decide))
   have kq137:=gd134.kp.trans kp136
   replace hd:=hd.kp kq137
   exact (by unfold pl;rw [hff];exact ⟨_,_,_,_,_,_,rfl,(Sl.mono (ho.sl) fun _ _=>ERp.rw),(hpv.sl),hd⟩)
 ·have hff:rs R m M=rs R m k:=by rw [show M=k by have:=of_decide_eq_false hb25;omega]
  refine swk 20 (.bool false) [(4,21),(5,22),(6,23),(7,24),(8,25)] rfl (RunV.bool (x:=decide ((k:Int)<(M:Int))) (rvk (by kernel_rfl)) hb25) ?_
  refine sv 26 (.bool false) ?_
  refine sq_nil ?_
  refine k24 _ _ ?_
  try clear k24 K24
  refine wp_cond_false rfl ?_
  refine wp_exit ?_
  simp only [Exit.then,Exit.inBlock,↓reduceIte]
  refine k19 _ _ ?_
  try clear k19 K19
  refine wp_seq_k (fun K138 k138=>?_)
  have gd142:=Gr.drew w21
  replace hB:=hB.trans gd142
  replace L17:=L17.gr gd142
  refine wp_region_ord (fun w'=>Lc w' b17 #[c0,c1,c2,c3] 71) [(true,0),(true,1),(true,2),(true,3),(true,4),(false,5)] (by kernel_rfl) (by kernel_rfl) (by kernel_rfl) (by decide) (fun _ _ _ _ _ h=>h) L17 ?_
  refine ov 139 u13 ?_
  refine ov 140 vp ?_
  refine ow 141 (.agg #[c0,c1,c2,c3]) rfl (fun w' hS=>(rl 71 0 [c0,c1,c2,c3] hS)) ?_
  refine ov 4 u13 ?_
  refine ov 5 vp ?_
  refine oe ?_
  replace L11:=L11.gr gd142
  have lo144:=L11
  refine es 71 0 (.agg #[c0,c1,c2,c3]) [c0,c1,c2,c3] #[c0,c1,c2,c3] L11 hB q11 ⟨hd.one0,hd.one1,hd.one2,hd.one3,trivial⟩ fun w144 st144 kp144 L11 hB=>?_
  replace L17:=st144.lc L17 (Ne.symm ne11_17)
  refine ⟨L17,?_⟩
  refine ord_nil ?_
  refine k138 _ _ ?_
  try clear k138 K138
  refine wp_ret ?_
  refine bodyPost_ret (v:=(.tuple #[u13,vp,(.agg #[c0,c1,c2,c3])])) (ret_tmp2_cell _ _ _ rfl rfl rfl rfl L11 (by kernel_rfl)) rfl ⟨?_,hB⟩
  replace ho:=(ho.gr (stab_rp (stab_rat K) 71 4) gd142).stav (fun _ h=>h.2) (stab_rat K) st144 lo144 (by decide) (by decide)
  replace hpv:=(hpv.gr stab_i64 gd142).kts stab_i64 (st144.kts lo144 (by decide))
  have kq145:=gd142.kp.trans kp144
  replace hd:=hd.kp kq145
  exact (by unfold pl;rw [hff];exact ⟨_,_,_,_,_,_,rfl,(Sl.mono (ho.sl) fun _ _=>ERp.rw),(hpv.sl),hd⟩)

end Go.Proofs.YtepgkcimmdmgcaaGreatDoor
namespace Go.Proofs.YtepgkcimmdmgcaaGreatDoor
theorem rs_pv {R k t:Nat} {m:Mx_} (h:t<pl R m k):pv (rs R m k) t<k:=(red_inv R m 1 k).lt t h
theorem rs_ple (R:Nat) (m:Mx_) (k:Nat):pl R m k≤k:=by have:=redR_le R ⟨m,[],1⟩ k;simp only [List.length_nil,Nat.zero_add] at this;exact this
theorem rs_inj {R k t u:Nat} {m:Mx_} (ht:t<pl R m k) (hu:u<pl R m k) (h:pv (rs R m k) t=pv (rs R m k) u):t=u:=by
  have hI:=(red_inv R m 1 k).inc
  rcases Nat.lt_trichotomy t u with hl | he | hg
  · have:pv (rs R m k) t<pv (rs R m k) u:=hI t u hl hu
    omega
  · exact he
  · have:pv (rs R m k) u<pv (rs R m k) t:=hI u t hg ht
    omega
/-- sums of which one member is meant -/
theorem sm_off {n:Nat} {f:Nat→Rat} (h:∀ i,i<n→f i=0):sm n f=0:=by
  induction n with
  | zero=>rfl
  | succ n ih=>show sm n f+f n=0;rw [ih fun i hi=>h i (by omega),h n (by omega)];exact Rat.add_zero _
/-- places that the pivots before j have filled -/
def pik (R:Nat) (m:Mx_) (n:Nat) (g:Nat→Rat) (j k:Nat):Rat:=sm j fun t=>if pv (rs R m n) t=k then g t else 0
theorem pik_step {R n j:Nat} {m:Mx_} {g:Nat→Rat} (hj:j<pl R m n) (k:Nat):(if k=pv (rs R m n) j then g j else pik R m n g j k)=pik R m n g (j+1) k:=by
  show _=pik R m n g j k+(if pv (rs R m n) j=k then g j else 0)
  by_cases h:k=pv (rs R m n) j
  · have h0:pik R m n g j k=0:=sm_off fun t ht=>if_neg fun e=>by
      have:=rs_inj (t:=t) (u:=j) (by omega) hj (e.trans h);omega
    rw [if_pos h,h0,if_pos h.symm];grind
  · rw [if_neg h,if_neg (Ne.symm h)];grind
theorem pik_zero {R n N:Nat} {m:Mx_} {g:Nat→Rat}:List.replicate N (0:Rat)=tb (fun z1=>pik R m n g 0 z1) N:=rep_tb
theorem pik_set {R n N j:Nat} {m:Mx_} {g:Nat→Rat} {x:Rat} (hj:j<pl R m n) (hx:x=g j):(tb (fun z1=>pik R m n g j z1) N).set (pv (rs R m n) j) x=tb (fun z1=>pik R m n g (j+1) z1) N:=by
  subst hx
  rw [set_tb]
  exact tb_congr fun k _=>pik_step hj k
theorem sol_pik (R n k:Nat) (m:Mx_):pik R m n (fun t=>(rs R m n).m t n) (pl R m n) k=sol (rs R m n) n k:=rfl
theorem fit_succ {r i:Nat} {f:Nat→Rat} (h:∀ t,r≤t→t<r+i→f t=0) (hi:f (r+i)=0):∀ t,r≤t→t<r+(i+1)→f t=0:=fun t h1 h2=>by
  by_cases e:t=r+i
  · rw [e];exact hi
  · exact h t h1 (by omega)
/-- a kernel vector,of which the pivots before j are set -/
def kvp (R:Nat) (m:Mx_) (n f j k:Nat):Rat:=if k=f then 1 else pik R m n (fun t=>-(rs R m n).m t f) j k
theorem kvp_zero {R n N f:Nat} {m:Mx_}:(List.replicate N (0:Rat)).set f (((1:Int):Rat))=tb (fun z1=>kvp R m n f 0 z1) N:=by
  rw [rep_tb,set_tb]
  exact tb_congr fun k _=>rfl
theorem kvp_set {R n N f j:Nat} {m:Mx_} {x:Rat} (hj:j<pl R m n) (hf:¬ pv (rs R m n) j=f) (hx:x=-(rs R m n).m j f):(tb (fun z1=>kvp R m n f j z1) N).set (pv (rs R m n) j) x=tb (fun z1=>kvp R m n f (j+1) z1) N:=by
  subst hx
  rw [set_tb]
  refine tb_congr fun k _=>?_
  unfold kvp
  by_cases h:k=f
  · rw [if_pos h,if_pos h,if_neg fun e=>hf (e.symm.trans h)]
  · rw [if_neg h,if_neg h];exact pik_step hj k
/-- the columns without a pivot,those before f -/
def isP (R:Nat) (m:Mx_) (n:Nat) (x:Nat):Bool:=hasI (fun t=>((pv (rs R m n) t:Nat):Int)) (pl R m n) (x:Int)
def frl (R:Nat) (m:Mx_) (n f:Nat):List Nat:=(List.range f).filter fun x=>!isP R m n x
abbrev nfr (R:Nat) (m:Mx_) (n f:Nat):Nat:=(frl R m n f).length
def frc (R:Nat) (m:Mx_) (n f t:Nat):Nat:=(frl R m n f).getD t 0
theorem isP_no {R n x t:Nat} {m:Mx_} (h:isP R m n x=false) (ht:t<pl R m n):¬ pv (rs R m n) t=x:=fun e=>by
  have:=hasI_true (P:=fun t=>((pv (rs R m n) t:Nat):Int)) (z:=(x:Int)) ht (by show ((pv (rs R m n) t:Nat):Int)=_;rw [e])
  unfold isP at h
  rw [this] at h;cases h
theorem frl_yes {R n f:Nat} {m:Mx_} (h:isP R m n f=true):frl R m n (f+1)=frl R m n f:=by
  unfold frl;rw [List.range_succ,List.filter_append];simp [h]
theorem frl_no {R n f:Nat} {m:Mx_} (h:isP R m n f=false):frl R m n (f+1)=frl R m n f++[f]:=by
  unfold frl;rw [List.range_succ,List.filter_append];simp [h]
theorem fr_yes {R n N f:Nat} {m:Mx_} (h:isP R m n f=true):tb (fun z0=>tb (fun z1=>kv (rs R m n) (frc R m n f z0) z1) N) (nfr R m n f)=tb (fun z0=>tb (fun z1=>kv (rs R m n) (frc R m n (f+1) z0) z1) N) (nfr R m n (f+1)):=by
  unfold frc nfr;rw [frl_yes h]
theorem fr_no {R n N f:Nat} {m:Mx_} {x:List Rat} (h:isP R m n f=false) (hx:x=tb (fun z1=>kv (rs R m n) f z1) N):tb (fun z0=>tb (fun z1=>kv (rs R m n) (frc R m n f z0) z1) N) (nfr R m n f)++[x]=tb (fun z0=>tb (fun z1=>kv (rs R m n) (frc R m n (f+1) z0) z1) N) (nfr R m n (f+1)):=by
  subst hx
  have e:nfr R m n (f+1)=nfr R m n f+1:=by unfold nfr;rw [frl_no h];simp
  rw [e,← tb_snoc (f:=fun z0=>tb (fun z1=>kv (rs R m n) (frc R m n (f+1) z0) z1) N) (n:=nfr R m n f) (x:=tb (fun z1=>kv (rs R m n) f z1) N)]
  · congr 1
    refine tb_congr fun t ht=>?_
    have:frc R m n (f+1) t=frc R m n f t:=by
      unfold frc;rw [frl_no h,List.getD_eq_getElem?_getD,List.getElem?_append_left ht,List.getD_eq_getElem?_getD]
    simp only [this]
  · have:frc R m n (f+1) (nfr R m n f)=f:=by unfold frc nfr;rw [frl_no h];simp
    simp only [this]
theorem nfr_le (R:Nat) (m:Mx_) (n f:Nat):nfr R m n f≤f:=by
  have:=List.length_filter_le (fun x=>!isP R m n x) (List.range f)
  rw [List.length_range] at this;exact this
/-- a matrix with one column more -/
def wth (N:Nat) (m:Mx_) (b:Nat→Rat):Mx_:=fun i c=>if c<N then m i c else b i
theorem wth_row {N i:Nat} {m:Mx_} {b:Nat→Rat} {x:Rat} (hx:x=b i):tb (fun z1=>m i z1) N++[x]=tb (fun z1=>wth N m b i z1) (N+1):=by
  rw [← tb_snoc (f:=fun z1=>wth N m b i z1) (n:=N) (x:=x) (by subst hx;unfold wth;rw [if_neg (Nat.lt_irrefl N)])]
  congr 1
  exact tb_congr fun c hc=>by unfold wth;rw [if_pos hc]
theorem dtE_lt {R:Nat} {m:Mx_} (h:pl R m R<R):(0:Rat)=dtE R m:=by
  unfold dtE;rw [if_pos (show (redR R R ⟨m,[],1⟩).p.length<R from h)]
theorem dtE_ge {R:Nat} {m:Mx_} (h:¬ pl R m R<R):(rs R m R).d=dtE R m:=by
  unfold dtE;rw [if_neg (show ¬ (redR R R ⟨m,[],1⟩).p.length<R from h)];rfl
end Go.Proofs.YtepgkcimmdmgcaaGreatDoor
namespace Go.Proofs.YtepgkcimmdmgcaaGreatDoor
open Go.RowKit

set_option maxRecDepth 100000 in
set_option maxHeartbeats 1000000 in
theorem mx_Reduce {K R N:Nat} {v:Value} {m:Mx_} (hR:R=0→N=0) (_hK:64≤K) (_hK2:K≤20000) (_hR2:R≤256) (_hN2:N≤96) (hz:∀ k,k≤N→RdZ R N K (rs R m k)) {w:World} (hs:Sl (ERw (ERat K) 71 4) 49 1 w v (tb (fun z0=>tb (fun z1=>(m z0 z1)) N) R)):
    Calls Tryz.prog 14 #[v] w fun e w'=>(∃ u v,e=.returned (.tuple #[u,v,.int .i64 0])∧Sl (ERw (ERat K) 71 4) 49 1 w' u (tb (fun z0=>tb (fun z1=>((rs R m N).m z0 z1)) N) (pl R m N))∧Sl EI64 3 1 w' v (tb (fun z1=>((pv (rs R m N) z1:Nat):Int)) (pl R m N)))∧Gr w w':=by
 go_enter Tryz.func14,Tryz.ntmps14
 have hB:=Gr.refl w
 refine wp_seq_k (fun K10 k10=>?_)
 refine rg [0,1,2] ?_
 refine sv 2 (.slice none 0 0) ?_
 refine sv 3 (.slice none 0 0) ?_
 refine sv 4 (.int .i64 0) ?_
 refine sq_nil ?_
 refine k10 _ _ ?_
 try clear k10 K10
 refine wp_seq_k (fun K11 k11=>?_)
 refine wp_seq_k (fun K12 k12=>?_)
 refine rg [0,1,2] ?_
 refine sv 11 v ?_
 refine se ?_
 refine ec 12 (mx_size (by omega) (by omega) (hs.gr (stab_rw (stab_rat K) 71 4) hB)) ?_
 rintro e13 w13 ⟨rfl,g13⟩
 refine ⟨_,rfl,?_⟩
 replace hB:=hB.trans g13
 simp only [p3,p4]
 refine sv 5 (.int .i64 0) ?_
 refine sq_nil ?_
 refine k12 _ _ ?_
 try clear k12 K12
 refine wp_seq_k (fun K14 k14=>?_)
 refine rg [0,1] ?_
 refine sv 13 (.int .i64 0) ?_
 refine sv 14 (.bool false) ?_
 refine sq_nil ?_
 refine k14 _ _ ?_
 try clear k14 K14
 refine wp_cond_false rfl ?_
 refine wp_skip ?_
 refine k11 _ _ ?_
 try clear k11 K11
 refine wp_seq_k (fun K15 k15=>?_)
 refine rg [0,1,2,3,4,5,6,7,8,9,10,11] ?_
 refine sv 17 v ?_
 refine sv 18 v ?_
 refine se ?_
 refine ec 19 (mx_columnsp (hs.gr (stab_rw (stab_rat K) 71 4) hB) hR) ?_
 rintro e16 w16 ⟨rfl,g16⟩
 refine ⟨_,rfl,?_⟩
 replace hB:=hB.trans g16
 simp only [p3,p4]
 refine se ?_
 have hlen17:=rs_len R m N
 have hple17:=rs_ple R m N
 refine ec 20 (mx_reduced (by omega) (by omega) (by omega) (by omega) (by omega) hz (hs.gr (stab_rw (stab_rat K) 71 4) hB)) ?_
 rintro e17 w17 ⟨⟨u17,v17,p17,q17,r17,s17,rfl,hs17,hp17,h17⟩,g17⟩
 refine ⟨_,rfl,?_⟩
 replace hB:=hB.trans g17
 have lehc17:=Below.size hB
 have hc17:=Gr.refl w17
 simp only [p3,p4]
 refine sv 16 (.tuple #[u17,v17,(.agg #[p17,q17,r17,s17])]) ?_
 refine sv 21 u17 ?_
 refine sv 22 v17 ?_
 refine sv 23 (.agg #[p17,q17,r17,s17]) ?_
 refine se ?_
 refine ea 71 #[(.bool false),(.slice none 0 0),(.bool false),(.slice none 0 0)] 7 hB fun b18 w18 g18 L18 o18 q18 hB=>?_
 have q18_hc17:=Nat.le_trans (Below.size hc17) o18
 replace hc17:=hc17.trans g18
 simp only [p3,p4]
 refine sv 6 u17 ?_
 refine sv 3 v17 ?_
 refine se ?_
 have lo19:=L18
 refine es 71 0 (.agg #[p17,q17,r17,s17]) [p17,q17,r17,s17] #[p17,q17,r17,s17] L18 hB q18 ⟨h17.one0,h17.one1,h17.one2,h17.one3,trivial⟩ fun w19 st19 kp19 L18 hB=>?_
 replace hc17:=st19.gr hc17 q18_hc17
 refine sq_nil ?_
 refine k15 _ _ ?_
 try clear k15 K15
 refine wp_seq_k (fun K20 k20=>?_)
 refine rg [0] ?_
 refine sv 8 (.slice none 0 0) ?_
 refine sq_nil ?_
 refine k20 _ _ ?_
 try clear k20 K20
 refine wp_seq_k (fun K21 k21=>?_)
 refine wp_seq_k (fun K22 k22=>?_)
 refine rg [0,1,2,3,4,5] ?_
 refine sv 24 u17 ?_
 refine sv 25 v17 ?_
 refine sw 26 (.int .i64 (((pl R m N:Nat):Int))) rfl (rv_lenn (e:=3) hp17 (tb_lenz rfl) _ _ rfl rfl (by kernel_rfl)) ?_
 have hs23:=hs17.subt (show 0≤(pl R m N) by omega) (show (pl R m N)≤R by omega)
 replace hs23:=hs23.cast (tb_sub0 (f:=(fun z0=>tb (fun z1=>((rs R m N).m z0 z1)) N)))
 refine sw 27 (subv u17 0 (pl R m N) 1) rfl (rv_subt (e:=49) hs17 0 (pl R m N) (by omega) (by omega) _ _ _ _ rfl rfl (.inl ⟨rfl,rfl⟩) (.inr rfl) (by kernel_rfl) (by kernel_rfl)) ?_
 refine sw 28 (.int .i64 (((pl R m N:Nat):Int))) rfl (rv_lenn (e:=49) hs23 (tb_lenz rfl) _ _ rfl rfl (by kernel_rfl)) ?_
 refine sv 29 (.int .i64 0) ?_
 refine sq_nil ?_
 refine k22 _ _ ?_
 try clear k22 K22
 refine wp_block ?_
 refine wp_loop_inv (a:=⟨List.toArray ?l24,[]⟩) (fun n a w'=>∃ (j:Nat) (vo:Value) (u24:Nat→Value),(pl R m N) - j=n∧a=⟨[v,undef,(.slice none 0 0),v17,(.int .i64 0),(.int .i64 0),u17,(u24 7),vo,undef,(u24 10),(u24 11),(u24 12),(u24 13),(.bool false),undef,(u24 16),(u24 17),(u24 18),(u24 19),(u24 20),(u24 21),(u24 22),(u24 23),(u24 24),(u24 25),(u24 26),(subv u17 0 (pl R m N) 1),(.int .i64 (((pl R m N:Nat):Int))),(.int .i64 ((j:Int))),(u24 30),(u24 31),(u24 32),(u24 33),(u24 34),(u24 35),(u24 36),(u24 37),(u24 38),undef,undef].toArray,[]⟩∧j≤(pl R m N)∧Ow (ERw (ERat K) 71 4) 49 1 w' w17.heap.size vo (tb (fun z0=>tb (fun z1=>((rs R m N).m z0 z1)) N) j)∧Gr w17 w'∧Gr w w') ((pl R m N) - 0) ?_ ?_
 ·exact ⟨0,(.slice none 0 0),(fun i=>List.getD ?l24 i undef),rfl,rfl,(Nat.zero_le _),(Ow.nil _ _ _ _ _),hc17,hB⟩
 rintro n24 a24 w24 ⟨j,vo,u24,rfl,rfl,hkj,oo,hc17,hB⟩ K24 k24
 have lehC:=Below.size hB
 have lehC_hc17:=Below.size hc17
 have hC:=Gr.refl w24
 refine wp_seq_k (fun K25 k25=>?_)
 refine rg [0] ?_
 refine sv 30 (.bool (decide ((j:Int)<((pl R m N:Nat):Int)))) ?_
 refine sq_nil ?_
 refine k25 _ _ ?_
 try clear k25 K25
 refine wp_seq_k (fun K26 k26=>?_)
 refine wp_cond_split (t:=decide ((j:Int)<((pl R m N:Nat):Int))) rfl (fun hb27=>?_) (fun hb27=>?_)
 ·have hlj:j<(pl R m N):=by have:=of_decide_eq_true hb27;omega
  refine wp_skip ?_
  refine k26 _ _ ?_
  try clear k26 K26
  refine wp_seq_k (fun K28 k28=>?_)
  refine wp_block ?_
  refine wp_seq_k (fun K29 k29=>?_)
  refine rg [0,1,2] ?_
  refine sw 31 (adr (subv u17 0 (pl R m N) 1) (j*1)) rfl (rv_idxn (e:=49) hs23 tb_len (by decide) j (by omega) _ _ _ rfl rfl rfl (by kernel_rfl) (by kernel_rfl)) ?_
  obtain ⟨_,_,⟨u30,rfl,hr30⟩,at30⟩:=Sl.get hs23 (by decide) (tb_get (f:=(fun z0=>tb (fun z1=>((rs R m N).m z0 z1)) N)) (n:=(pl R m N)) (i:=j) (by omega))
  refine sw 32 u30 rfl (rv_ld1 u30 (at30.gr hc17) _ _ rfl rfl (by kernel_rfl)) ?_
  refine sv 10 u30 ?_
  refine sq_nil ?_
  refine k29 _ _ ?_
  try clear k29 K29
  refine rg [0,1,2,3,4,5] ?_
  refine sv 33 vo ?_
  refine sv 34 u30 ?_
  refine se ?_
  refine ec 35 (cl_rat (by omega) (hr30.gr (stab_rat K) hc17)) ?_
  rintro e31 w31 ⟨⟨u31,rfl,hs31⟩,g31⟩
  refine ⟨_,rfl,?_⟩
  replace hB:=hB.trans g31
  replace hc17:=hc17.trans g31
  replace hC:=hC.trans g31
  replace hs31:=hs31.sl
  simp only [p3,p4]
  refine se ?_
  refine eff_bs1 29 49 u31 (some 36) rfl rfl rfl hs31.forms (fun _ _ _ _=>by kernel_rfl) (fun b32 w32 g32 L32 q32=>?_)
  have q32_hc17:=Nat.le_trans (Below.size hc17) q32
  have q32_hC:=Nat.le_trans (Below.size hC) q32
  replace hB:=hB.trans g32
  replace hc17:=hc17.trans g32
  replace hC:=hC.trans g32
  simp only [putl,p3,p4]
  refine se ?_
  replace hs31:=hs31.gr (stab_rat K) g32
  refine eff_apg (stab_rw (stab_rat K) 71 4) _ _ 29 49 w17.heap.size (.slice none 0 0) vo (tb (fun z0=>tb (fun z1=>((rs R m N).m z0 z1)) N) j) b32 [u31] (tb (fun z1=>((rs R m N).m j z1)) N) 1 1 (some 37) 24 rfl rfl rfl rfl (oo.gr (stab_rw (stab_rat K) 71 4) hC) L32 ⟨hs31.one,trivial⟩ rfl ⟨_,rfl,hs31⟩ (Below.size hc17) (by rw [tb_len];omega) (by decide) (by kernel_rfl) (by kernel_rfl) (by decide) (by decide) (fun v33 w33 ow33 wt33 hg33=>?_)
  replace hB:=hg33 _ hB lehc17
  replace hc17:=hg33 _ hc17 (Nat.le_refl _)
  replace ow33:=ow33.cast (tb_snoc (f:=(fun z0=>tb (fun z1=>((rs R m N).m z0 z1)) N)) (n:=j) (by first | rfl | exact fil_all))
  simp only [putl,p3,p4]
  refine sv 8 v33 ?_
  refine sq_nil ?_
  refine k28 _ _ ?_
  try clear k28 K28
  refine rg [0,1] ?_
  refine sw 38 (.int .i64 (((j:Int)+1))) rfl (RunV.int (x:=IntKind.i64.wrap (((j:Int)+1))) (y:=((j:Int)+1)) (rvk (by kernel_rfl)) (by first | rfl | (rw [IntKind.wrap_i64];omega))) ?_
  refine sv 29 (.int .i64 (((j:Int)+1))) ?_
  refine sq_nil ?_
  refine k24 ((pl R m N) - (j+1)) ⟨List.toArray ?l34,[]⟩ _ (by omega) ?_
  exact ⟨j+1,v33,(fun i=>List.getD ?l34 i undef),rfl,rfl,(by omega),ow33,hc17,hB⟩
 ·have hej:(pl R m N)=j:=by have:=of_decide_eq_false hb27;omega
  subst hej
  refine wp_exit ?_
  simp only [Exit.then,Exit.inBlock,↓reduceIte]
  refine k21 _ _ ?_
  try clear k21 K21
  refine wp_seq_k (fun K35 k35=>?_)
  refine rg [0,1,2,3,4] ?_
  refine sv 39 vo ?_
  refine sv 40 v17 ?_
  refine sv 2 vo ?_
  refine sv 3 v17 ?_
  refine sv 4 (.int .i64 0) ?_
  refine sq_nil ?_
  refine k35 _ _ ?_
  try clear k35 K35
  refine wp_ret ?_
  refine bodyPost_ret (v:=(.tuple #[vo,v17,(.int .i64 0)])) (ret_tmp3 rfl rfl rfl rfl) rfl ⟨?_,hB⟩
  exact ⟨_,_,rfl,((oo.gr (stab_rw (stab_rat K) 71 4) hC).sl),(hp17.gr stab_i64 hc17)⟩

set_option maxRecDepth 100000 in
set_option maxHeartbeats 1000000 in
theorem mx_Rank {K R N:Nat} {v:Value} {m:Mx_} (hR:R=0→N=0) (_hK:64≤K) (_hK2:K≤20000) (_hR2:R≤256) (_hN2:N≤96) (hz:∀ k,k≤N→RdZ R N K (rs R m k)) {w:World} (hs:Sl (ERw (ERat K) 71 4) 49 1 w v (tb (fun z0=>tb (fun z1=>(m z0 z1)) N) R)):
    Calls Tryz.prog 16 #[v] w fun e w'=>e=.returned (.tuple #[.int .i64 ((pl R m N:Nat):Int),.int .i64 0])∧Gr w w':=by
 go_enter Tryz.func16,Tryz.ntmps16
 have hB:=Gr.refl w
 refine wp_seq_k (fun K10 k10=>?_)
 refine rg [0,1] ?_
 refine sv 2 (.int .i64 0) ?_
 refine sv 3 (.int .i64 0) ?_
 refine sq_nil ?_
 refine k10 _ _ ?_
 try clear k10 K10
 refine wp_seq_k (fun K11 k11=>?_)
 refine wp_seq_k (fun K12 k12=>?_)
 refine rg [0,1,2] ?_
 refine sv 8 v ?_
 refine se ?_
 refine ec 9 (mx_size (by omega) (by omega) (hs.gr (stab_rw (stab_rat K) 71 4) hB)) ?_
 rintro e13 w13 ⟨rfl,g13⟩
 refine ⟨_,rfl,?_⟩
 replace hB:=hB.trans g13
 simp only [p3,p4]
 refine sv 4 (.int .i64 0) ?_
 refine sq_nil ?_
 refine k12 _ _ ?_
 try clear k12 K12
 refine wp_seq_k (fun K14 k14=>?_)
 refine rg [0,1] ?_
 refine sv 10 (.int .i64 0) ?_
 refine sv 11 (.bool false) ?_
 refine sq_nil ?_
 refine k14 _ _ ?_
 try clear k14 K14
 refine wp_cond_false rfl ?_
 refine wp_skip ?_
 refine k11 _ _ ?_
 try clear k11 K11
 refine wp_seq_k (fun K15 k15=>?_)
 refine rg [0,1,2,3,4,5,6,7,8,9,10,11] ?_
 refine sv 14 v ?_
 refine sv 15 v ?_
 refine se ?_
 refine ec 16 (mx_columnsp (hs.gr (stab_rw (stab_rat K) 71 4) hB) hR) ?_
 rintro e16 w16 ⟨rfl,g16⟩
 refine ⟨_,rfl,?_⟩
 replace hB:=hB.trans g16
 simp only [p3,p4]
 refine se ?_
 have hlen17:=rs_len R m N
 have hple17:=rs_ple R m N
 refine ec 17 (mx_reduced (by omega) (by omega) (by omega) (by omega) (by omega) hz (hs.gr (stab_rw (stab_rat K) 71 4) hB)) ?_
 rintro e17 w17 ⟨⟨u17,v17,p17,q17,r17,s17,rfl,hs17,hp17,h17⟩,g17⟩
 refine ⟨_,rfl,?_⟩
 replace hB:=hB.trans g17
 have lehc17:=Below.size hB
 have hc17:=Gr.refl w17
 simp only [p3,p4]
 refine sv 13 (.tuple #[u17,v17,(.agg #[p17,q17,r17,s17])]) ?_
 refine sv 18 u17 ?_
 refine sv 19 v17 ?_
 refine sv 20 (.agg #[p17,q17,r17,s17]) ?_
 refine se ?_
 refine ea 71 #[(.bool false),(.slice none 0 0),(.bool false),(.slice none 0 0)] 7 hB fun b18 w18 g18 L18 o18 q18 hB=>?_
 have q18_hc17:=Nat.le_trans (Below.size hc17) o18
 replace hc17:=hc17.trans g18
 simp only [p3,p4]
 refine sv 5 u17 ?_
 refine sv 6 v17 ?_
 refine se ?_
 have lo19:=L18
 refine es 71 0 (.agg #[p17,q17,r17,s17]) [p17,q17,r17,s17] #[p17,q17,r17,s17] L18 hB q18 ⟨h17.one0,h17.one1,h17.one2,h17.one3,trivial⟩ fun w19 st19 kp19 L18 hB=>?_
 replace hc17:=st19.gr hc17 q18_hc17
 refine sq_nil ?_
 refine k15 _ _ ?_
 try clear k15 K15
 refine wp_seq_k (fun K20 k20=>?_)
 refine rg [0,1,2,3] ?_
 refine sv 21 v17 ?_
 refine sw 22 (.int .i64 (((pl R m N:Nat):Int))) rfl (rv_lenn (e:=3) hp17 (tb_lenz rfl) _ _ rfl rfl (by kernel_rfl)) ?_
 refine sv 2 (.int .i64 (((pl R m N:Nat):Int))) ?_
 refine sv 3 (.int .i64 0) ?_
 refine sq_nil ?_
 refine k20 _ _ ?_
 try clear k20 K20
 refine wp_ret ?_
 refine bodyPost_ret (v:=(.tuple #[(.int .i64 (((pl R m N:Nat):Int))),(.int .i64 0)])) (ret_tmp2 rfl rfl rfl) rfl ⟨?_,hB⟩
 exact rfl

set_option maxRecDepth 100000 in
set_option maxHeartbeats 1000000 in
theorem mx_with {K R N:Nat} {v vb:Value} {m:Mx_} {b:Nat→Rat} (_hR2:R≤256) (_hN2:N≤96) {w:World} (hs:Sl (ERw (ERat K) 71 4) 49 1 w v (tb (fun z0=>tb (fun z1=>(m z0 z1)) N) R)) (hb:Sl (ERat K) 71 4 w vb (tb (fun z1=>(b z1)) R)):
    Calls Tryz.prog 77 #[v,vb] w fun e w'=>(∃ u,e=.returned u∧Sl (ERw (ERat K) 71 4) 49 1 w' u (tb (fun z0=>tb (fun z1=>(wth N m b z0 z1)) (N+1)) R))∧Gr w w':=by
 go_enter Tryz.func77,Tryz.ntmps77
 have hB:=Gr.refl w
 refine wp_seq_k (fun K10 k10=>?_)
 refine rg [0] ?_
 refine sv 4 (.slice none 0 0) ?_
 refine sq_nil ?_
 refine k10 _ _ ?_
 try clear k10 K10
 refine wp_seq_k (fun K11 k11=>?_)
 refine rg [0] ?_
 refine sv 5 (.slice none 0 0) ?_
 refine sq_nil ?_
 refine k11 _ _ ?_
 try clear k11 K11
 refine wp_seq_k (fun K12 k12=>?_)
 refine wp_seq_k (fun K13 k13=>?_)
 refine rg [0,1,2] ?_
 refine sv 8 v ?_
 refine sw 9 (.int .i64 ((R:Int))) rfl (rv_lenn (e:=49) hs (tb_lenz rfl) _ _ rfl rfl (by kernel_rfl)) ?_
 refine sv 10 (.int .i64 0) ?_
 refine sq_nil ?_
 refine k13 _ _ ?_
 try clear k13 K13
 refine wp_block ?_
 refine wp_loop_inv (a:=⟨List.toArray ?l14,[]⟩) (fun n a w'=>∃ (j:Nat) (vo:Value) (u14:Nat→Value),R - j=n∧a=⟨[v,vb,undef,undef,(.slice none 0 0),vo,(u14 6),(u14 7),v,(.int .i64 ((R:Int))),(.int .i64 ((j:Int))),(u14 11),(u14 12),(u14 13),(u14 14),(u14 15),(u14 16),(u14 17),(u14 18),(u14 19),(u14 20),(u14 21),(u14 22),(u14 23),(u14 24),(u14 25),(u14 26),undef].toArray,[]⟩∧j≤R∧Ow (ERw (ERat K) 71 4) 49 1 w' w.heap.size vo (tb (fun z0=>tb (fun z1=>(wth N m b z0 z1)) (N+1)) j)∧Gr w w') (R - 0) ?_ ?_
 ·exact ⟨0,(.slice none 0 0),(fun i=>List.getD ?l14 i undef),rfl,rfl,(Nat.zero_le _),(Ow.nil _ _ _ _ _),hB⟩
 rintro n14 a14 w14 ⟨j,vo,u14,rfl,rfl,hkj,oo,hB⟩ K14 k14
 have lehC:=Below.size hB
 have hC:=Gr.refl w14
 refine wp_seq_k (fun K15 k15=>?_)
 refine rg [0] ?_
 refine sv 11 (.bool (decide ((j:Int)<(R:Int)))) ?_
 refine sq_nil ?_
 refine k15 _ _ ?_
 try clear k15 K15
 refine wp_seq_k (fun K16 k16=>?_)
 refine wp_cond_split (t:=decide ((j:Int)<(R:Int))) rfl (fun hb17=>?_) (fun hb17=>?_)
 ·have hlj:j<R:=by have:=of_decide_eq_true hb17;omega
  refine wp_skip ?_
  refine k16 _ _ ?_
  try clear k16 K16
  refine wp_seq_k (fun K18 k18=>?_)
  refine wp_block ?_
  refine wp_seq_k (fun K19 k19=>?_)
  refine rg [0,1,2,3,4] ?_
  refine sv 12 (.int .i64 ((j:Int))) ?_
  refine sw 13 (adr v (j*1)) rfl (rv_idxn (e:=49) hs tb_len (by decide) j (by omega) _ _ _ rfl rfl rfl (by kernel_rfl) (by kernel_rfl)) ?_
  obtain ⟨_,_,⟨u20,rfl,hr20⟩,at20⟩:=Sl.get hs (by decide) (tb_get (f:=(fun z0=>tb (fun z1=>(m z0 z1)) N)) (n:=R) (i:=j) (by omega))
  refine sw 14 u20 rfl (rv_ld1 u20 (at20.gr hB) _ _ rfl rfl (by kernel_rfl)) ?_
  refine sv 6 (.int .i64 ((j:Int))) ?_
  refine sv 7 u20 ?_
  refine sq_nil ?_
  refine k19 _ _ ?_
  try clear k19 K19
  obtain ⟨_,_,⟨cA32,cB32,cC32,cD32,rfl,h32⟩,at32⟩:=Sl.get hb (by decide) (tb_get (f:=(fun z1=>(b z1))) (n:=R) (i:=j) (by omega))
  have gd33:=Gr.drew w14
  replace hB:=hB.trans gd33
  replace hC:=hC.trans gd33
  refine wp_region_tree (fun w'=>AtV w' vb (j*4) [cA32,cB32,cC32,cD32]) (.two [(true,0),(true,1),(true,3),(true,4),(true,5),(true,6)] 2 7 (.fin [(false,7),(false,8),(false,9),(false,10),(true,11)]) (.fin [(false,2),(false,8),(false,9),(false,10),(true,11)])) (by kernel_rfl) (by kernel_rfl) (by kernel_rfl) (by decide) (fun _ _ _ _ _ h=>h) (at32.gr hB) ?_
  show wpOrd _ _ (QTwo _ _) _ _ _ _
  refine ov 15 vo ?_
  refine ov 16 u20 ?_
  refine ov 18 vb ?_
  refine ov 19 (.int .i64 ((j:Int))) ?_
  refine ow 20 (adr vb (j*4)) rfl (fun w' hS=>(rv_idxn (e:=71) hb tb_len (by decide) j (by omega) _ _ _ rfl rfl rfl (by kernel_rfl) (by kernel_rfl))) ?_
  refine ow 21 (.agg #[cA32,cB32,cC32,cD32]) rfl (fun w' hS=>(rv_ldn [cA32,cB32,cC32,cD32] hS _ _ rfl rfl (by kernel_rfl))) ?_
  refine ord_two ⟨?_,?_⟩
  ·refine oe ?_
   have sz35:=Below.size hC
   refine ec 17 (cl_rat (by omega) (hr20.gr (stab_rat K) hB)) ?_
   rintro e35 w35 ⟨⟨u35,rfl,hs35⟩,g35⟩
   refine ⟨_,rfl,?_⟩
   replace hB:=hB.trans g35
   replace hC:=hC.trans g35
   replace hs35:=hs35.mono sz35
   refine ⟨(at32.gr hB),?_⟩
   simp only [p3,p4]
   refine ord_two ?_
   show wpOrd _ _ _ _ _ _ _
   refine oe ?_
   refine eff_bs 71 1 #[cA32,cB32,cC32,cD32] (some 22) rfl (fun _=>by kernel_rfl) (fun b37 w37 g37 L37 q37=>?_)
   have q37_hC:=Nat.le_trans (Below.size hC) q37
   replace hB:=hB.trans g37
   replace hC:=hC.trans g37
   refine ⟨(at32.gr hB),?_⟩
   simp only [putl,p3,p4]
   refine oe ?_
   replace hs35:=hs35.gr (stab_rat K) g37
   refine eff_apg (stab_rat K) _ _ 49 71 w14.heap.size (.agg #[(.bool false),(.slice none 0 0),(.bool false),(.slice none 0 0)]) u35 (tb (fun z1=>(m j z1)) N) b37 [cA32,cB32,cC32,cD32] ((b j)) 4 1 (some 23) 64 rfl rfl rfl rfl hs35 L37 ⟨h32.one0,h32.one1,h32.one2,h32.one3,trivial⟩ rfl ⟨_,_,_,_,rfl,(h32.kp hB.kp).mono (by omega)⟩ (Below.size hC) (by rw [tb_len];omega) (by decide) (by kernel_rfl) (by kernel_rfl) (by decide) (by decide) (fun v39 w39 ow39 wt39 hg39=>?_)
   replace hB:=hg39 _ hB lehC
   replace hC:=hg39 _ hC (Nat.le_refl _)
   replace ow39:=ow39.cast (wth_row (b:=b) (i:=j) rfl)
   refine ⟨(at32.gr hB),?_⟩
   simp only [putl,p3,p4]
   refine oe ?_
   refine eff_bs1 29 49 v39 (some 24) rfl rfl rfl (ow39.sl).forms (fun _ _ _ _=>by kernel_rfl) (fun b41 w41 g41 L41 q41=>?_)
   have q41_hC:=Nat.le_trans (Below.size hC) q41
   replace hB:=hB.trans g41
   replace hC:=hC.trans g41
   refine ⟨(at32.gr hB),?_⟩
   simp only [putl,p3,p4]
   refine oe ?_
   replace ow39:=ow39.gr (stab_rat K) g41
   refine eff_apg (stab_rw (stab_rat K) 71 4) _ _ 29 49 w.heap.size (.slice none 0 0) vo (tb (fun z0=>tb (fun z1=>(wth N m b z0 z1)) (N+1)) j) b41 [v39] (tb (fun z1=>(wth N m b j z1)) (N+1)) 1 1 (some 25) 24 rfl rfl rfl rfl (oo.gr (stab_rw (stab_rat K) 71 4) hC) L41 ⟨ow39.one,trivial⟩ rfl ⟨_,rfl,(ow39.sl)⟩ (Below.size hB) (by rw [tb_len];omega) (by decide) (by kernel_rfl) (by kernel_rfl) (by decide) (by decide) (fun v43 w43 ow43 wt43 hg43=>?_)
   replace hB:=hg43 _ hB (Nat.le_refl _)
   replace ow43:=ow43.cast (tb_snoc (f:=(fun z0=>tb (fun z1=>(wth N m b z0 z1)) (N+1))) (n:=j) (by first | rfl | exact fil_all))
   refine ⟨(at32.gr hB),?_⟩
   simp only [putl,p3,p4]
   refine ov 5 v43 ?_
   refine ord_nil ?_
   refine k18 _ _ ?_
   try clear k18 K18
   refine rg [0,1] ?_
   refine sw 26 (.int .i64 (((j:Int)+1))) rfl (RunV.int (x:=IntKind.i64.wrap (((j:Int)+1))) (y:=((j:Int)+1)) (rvk (by kernel_rfl)) (by first | rfl | (rw [IntKind.wrap_i64];omega))) ?_
   refine sv 10 (.int .i64 (((j:Int)+1))) ?_
   refine sq_nil ?_
   refine k14 (R - (j+1)) ⟨List.toArray ?l44,[]⟩ _ (by omega) ?_
   exact ⟨j+1,v43,(fun i=>List.getD ?l44 i undef),rfl,rfl,(by omega),ow43,hB⟩
  ·refine oe ?_
   refine eff_bs 71 1 #[cA32,cB32,cC32,cD32] (some 22) rfl (fun _=>by kernel_rfl) (fun b46 w46 g46 L46 q46=>?_)
   have q46_hC:=Nat.le_trans (Below.size hC) q46
   replace hB:=hB.trans g46
   replace hC:=hC.trans g46
   refine ⟨(at32.gr hB),?_⟩
   simp only [putl,p3,p4]
   refine ord_two ?_
   show wpOrd _ _ _ _ _ _ _
   refine oe ?_
   have sz48:=Below.size hC
   refine ec 17 (cl_rat (by omega) (hr20.gr (stab_rat K) hB)) ?_
   rintro e48 w48 ⟨⟨u48,rfl,hs48⟩,g48⟩
   refine ⟨_,rfl,?_⟩
   replace hB:=hB.trans g48
   replace hC:=hC.trans g48
   replace hs48:=hs48.mono sz48
   refine ⟨(at32.gr hB),?_⟩
   simp only [p3,p4]
   refine oe ?_
   replace L46:=L46.gr g48
   refine eff_apg (stab_rat K) _ _ 49 71 w14.heap.size (.agg #[(.bool false),(.slice none 0 0),(.bool false),(.slice none 0 0)]) u48 (tb (fun z1=>(m j z1)) N) b46 [cA32,cB32,cC32,cD32] ((b j)) 4 1 (some 23) 64 rfl rfl rfl rfl hs48 L46 ⟨h32.one0,h32.one1,h32.one2,h32.one3,trivial⟩ rfl ⟨_,_,_,_,rfl,(h32.kp hB.kp).mono (by omega)⟩ (Below.size hC) (by rw [tb_len];omega) (by decide) (by kernel_rfl) (by kernel_rfl) (by decide) (by decide) (fun v50 w50 ow50 wt50 hg50=>?_)
   replace hB:=hg50 _ hB lehC
   replace hC:=hg50 _ hC (Nat.le_refl _)
   replace ow50:=ow50.cast (wth_row (b:=b) (i:=j) rfl)
   refine ⟨(at32.gr hB),?_⟩
   simp only [putl,p3,p4]
   refine oe ?_
   refine eff_bs1 29 49 v50 (some 24) rfl rfl rfl (ow50.sl).forms (fun _ _ _ _=>by kernel_rfl) (fun b52 w52 g52 L52 q52=>?_)
   have q52_hC:=Nat.le_trans (Below.size hC) q52
   replace hB:=hB.trans g52
   replace hC:=hC.trans g52
   refine ⟨(at32.gr hB),?_⟩
   simp only [putl,p3,p4]
   refine oe ?_
   replace ow50:=ow50.gr (stab_rat K) g52
   refine eff_apg (stab_rw (stab_rat K) 71 4) _ _ 29 49 w.heap.size (.slice none 0 0) vo (tb (fun z0=>tb (fun z1=>(wth N m b z0 z1)) (N+1)) j) b52 [v50] (tb (fun z1=>(wth N m b j z1)) (N+1)) 1 1 (some 25) 24 rfl rfl rfl rfl (oo.gr (stab_rw (stab_rat K) 71 4) hC) L52 ⟨ow50.one,trivial⟩ rfl ⟨_,rfl,(ow50.sl)⟩ (Below.size hB) (by rw [tb_len];omega) (by decide) (by kernel_rfl) (by kernel_rfl) (by decide) (by decide) (fun v54 w54 ow54 wt54 hg54=>?_)
   replace hB:=hg54 _ hB (Nat.le_refl _)
   replace ow54:=ow54.cast (tb_snoc (f:=(fun z0=>tb (fun z1=>(wth N m b z0 z1)) (N+1))) (n:=j) (by first | rfl | exact fil_all))
   refine ⟨(at32.gr hB),?_⟩
   simp only [putl,p3,p4]
   refine ov 5 v54 ?_
   refine ord_nil ?_
   refine k18 _ _ ?_
   try clear k18 K18
   refine rg [0,1] ?_
   refine sw 26 (.int .i64 (((j:Int)+1))) rfl (RunV.int (x:=IntKind.i64.wrap (((j:Int)+1))) (y:=((j:Int)+1)) (rvk (by kernel_rfl)) (by first | rfl | (rw [IntKind.wrap_i64];omega))) ?_
   refine sv 10 (.int .i64 (((j:Int)+1))) ?_
   refine sq_nil ?_
   refine k14 (R - (j+1)) ⟨List.toArray ?l55,[]⟩ _ (by omega) ?_
   exact ⟨j+1,v54,(fun i=>List.getD ?l55 i undef),rfl,rfl,(by omega),ow54,hB⟩
 ·have hej:R=j:=by have:=of_decide_eq_false hb17;omega
  subst hej
  refine wp_exit ?_
  simp only [Exit.then,Exit.inBlock,↓reduceIte]
  refine k12 _ _ ?_
  try clear k12 K12
  refine wp_seq_k (fun K56 k56=>?_)
  refine rg [0,1] ?_
  refine sv 27 vo ?_
  refine sv 4 vo ?_
  refine sq_nil ?_
  refine k56 _ _ ?_
  try clear k56 K56
  refine wp_ret ?_
  refine bodyPost_ret (v:=vo) (ret_tmp rfl rfl) rfl ⟨?_,hB⟩
  exact ⟨_,rfl,((oo.gr (stab_rw (stab_rat K) 71 4) hC).sl)⟩

set_option maxRecDepth 100000 in
set_option maxHeartbeats 1000000 in
theorem mx_solved_y {K R D:Nat} {v:Value} {m:Mx_} (hK:64≤K) (_hK2:K≤20000) (_hR2:R≤256) (_hN2:D≤96) (hz:∀ k,k≤D→RdZ R (D+1) K (rs R m k)) (hfit:(∀ t,pl R m D≤t→t<R→(rs R m D).m t D=0)) {w:World} (hs:Sl (ERw (ERat K) 71 4) 49 1 w v (tb (fun z0=>tb (fun z1=>(m z0 z1)) (D+1)) R)):
    Calls Tryz.prog 76 #[v,(.int .i64 ((D:Int)))] w fun e w'=>(∃ u,e=.returned (.tuple #[u,.int .i64 0])∧Sl (ERat K) 71 4 w' u (tb (fun z1=>(sol (rs R m D) D z1)) D))∧Gr w w':=by
 go_enter Tryz.func76,Tryz.ntmps76
 have hB:=Gr.refl w
 refine wp_seq_k (fun K10 k10=>?_)
 refine rg [0,1] ?_
 refine sv 4 (.slice none 0 0) ?_
 refine sv 5 (.int .i64 0) ?_
 refine sq_nil ?_
 refine k10 _ _ ?_
 try clear k10 K10
 refine wp_seq_k (fun K11 k11=>?_)
 refine rg [0,1,2,3,4,5,6,7,8,9,10] ?_
 refine sv 15 v ?_
 refine sv 16 (.int .i64 ((D:Int))) ?_
 refine se ?_
 have hlen12:=rs_len R m D
 have hple12:=rs_ple R m D
 refine ec 17 (mx_reduced (by omega) (by omega) (by omega) (by omega) (by omega) hz (hs.gr (stab_rw (stab_rat K) 71 4) hB)) ?_
 rintro e12 w12 ⟨⟨u12,v12,p12,q12,r12,s12,rfl,hs12,hp12,h12⟩,g12⟩
 refine ⟨_,rfl,?_⟩
 replace hB:=hB.trans g12
 have lehc12:=Below.size hB
 have hc12:=Gr.refl w12
 simp only [p3,p4]
 refine sv 14 (.tuple #[u12,v12,(.agg #[p12,q12,r12,s12])]) ?_
 refine sv 18 u12 ?_
 refine sv 19 v12 ?_
 refine sv 20 (.agg #[p12,q12,r12,s12]) ?_
 refine se ?_
 refine ea 71 #[(.bool false),(.slice none 0 0),(.bool false),(.slice none 0 0)] 8 hB fun b13 w13 g13 L13 o13 q13 hB=>?_
 have q13_hc12:=Nat.le_trans (Below.size hc12) o13
 replace hc12:=hc12.trans g13
 simp only [p3,p4]
 refine sv 6 u12 ?_
 refine sv 7 v12 ?_
 refine se ?_
 have lo14:=L13
 refine es 71 0 (.agg #[p12,q12,r12,s12]) [p12,q12,r12,s12] #[p12,q12,r12,s12] L13 hB q13 ⟨h12.one0,h12.one1,h12.one2,h12.one3,trivial⟩ fun w14 st14 kp14 L13 hB=>?_
 replace hc12:=st14.gr hc12 q13_hc12
 refine sq_nil ?_
 refine k11 _ _ ?_
 try clear k11 K11
 refine wp_seq_k (fun K15 k15=>?_)
 refine rg [0,1,2] ?_
 refine sv 21 (.int .i64 ((D:Int))) ?_
 refine se ?_
 refine eff_mk (E:=(ERat K)) (0:Rat) 49 71 (.agg #[(.bool false),(.slice none 0 0),(.bool false),(.slice none 0 0)]) D 4 64 (some 22) rfl rfl rfl rfl (by kernel_rfl) (by kernel_rfl) (by decide) (by omega) (by decide) (fun w2=>erat_zero K hK w2) (fun b16 w16 g16 mk16 q16=>?_)
 have q16_hc12:=Nat.le_trans (Below.size hc12) q16
 replace q16:=Nat.le_trans (Below.size hB) q16
 replace hB:=hB.trans g16
 replace hc12:=hc12.trans g16
 simp only [putl,p3,p4]
 refine sv 9 (.slice (some ⟨b16,0,none⟩) D D) ?_
 refine sq_nil ?_
 refine k15 _ _ ?_
 try clear k15 K15
 refine wp_seq_k (fun K17 k17=>?_)
 refine wp_seq_k (fun K18 k18=>?_)
 refine rg [0,1,2] ?_
 refine sv 23 v12 ?_
 refine sw 24 (.int .i64 (((pl R m D:Nat):Int))) rfl (rv_lenn (e:=3) hp12 (tb_lenz rfl) _ _ rfl rfl (by kernel_rfl)) ?_
 refine sv 25 (.int .i64 0) ?_
 refine sq_nil ?_
 refine k18 _ _ ?_
 try clear k18 K18
 refine wp_block ?_
 refine wp_loop_inv (a:=⟨List.toArray ?l19,[]⟩) (fun n a w'=>∃ (j:Nat) (u19:Nat→Value),pl R m D - j=n∧a=⟨[v,(.int .i64 ((D:Int))),undef,undef,(.slice none 0 0),(.int .i64 0),u12,v12,(u19 8),(.slice (some ⟨b16,0,none⟩) D D),(u19 10),(u19 11),undef,undef,(u19 14),(u19 15),(u19 16),(u19 17),(u19 18),(u19 19),(u19 20),(u19 21),(u19 22),v12,(.int .i64 (((pl R m D:Nat):Int))),(.int .i64 ((j:Int))),(u19 26),(u19 27),(u19 28),(u19 29),(u19 30),(u19 31),(u19 32),(u19 33),(u19 34),(u19 35),(u19 36),(u19 37),(u19 38),(u19 39),(u19 40),undef,undef,undef,undef,undef,undef,undef,undef,undef,undef,undef,undef,undef,undef,undef,undef,undef].toArray,[]⟩∧j≤pl R m D∧Mk (ERat K) 71 4 w' b16 (tb (fun z1=>pik R m D (fun t=>(rs R m D).m t D) j z1) D)∧Gr w12 w'∧Gr w w') (pl R m D - 0) ?_ ?_
 ·exact ⟨0,(fun i=>List.getD ?l19 i undef),rfl,rfl,(Nat.zero_le _),(mk16.cast pik_zero),hc12,hB⟩
 rintro n19 a19 w19 ⟨j,u19,rfl,rfl,hkj,mx,hc12,hB⟩ K19 k19
 refine wp_seq_k (fun K20 k20=>?_)
 refine rg [0] ?_
 refine sv 26 (.bool (decide ((j:Int)<((pl R m D:Nat):Int)))) ?_
 refine sq_nil ?_
 refine k20 _ _ ?_
 try clear k20 K20
 refine wp_seq_k (fun K21 k21=>?_)
 refine wp_cond_split (t:=decide ((j:Int)<((pl R m D:Nat):Int))) rfl (fun hb22=>?_) (fun hb22=>?_)
 ·have hlj:j<pl R m D:=by have:=of_decide_eq_true hb22;omega
  have hpj:=rs_pv hlj
  refine wp_skip ?_
  refine k21 _ _ ?_
  try clear k21 K21
  refine wp_seq_k (fun K23 k23=>?_)
  refine wp_block ?_
  refine wp_seq_k (fun K24 k24=>?_)
  refine rg [0,1,2,3,4] ?_
  refine sv 27 (.int .i64 ((j:Int))) ?_
  refine sw 28 (adr v12 (j*1)) rfl (rv_idxn (e:=3) hp12 tb_len (by decide) j (by omega) _ _ _ rfl rfl rfl (by kernel_rfl) (by kernel_rfl)) ?_
  obtain ⟨_,_,rfl,at25⟩:=Sl.get hp12 (by decide) (tb_get (f:=(fun z1=>((pv (rs R m D) z1:Nat):Int))) (n:=(pl R m D)) (i:=j) (by omega))
  refine sw 29 (.int .i64 (((pv (rs R m D) j:Nat):Int))) rfl (rv_ld1 (.int .i64 (((pv (rs R m D) j:Nat):Int))) (at25.gr hc12) _ _ rfl rfl (by kernel_rfl)) ?_
  refine sv 10 (.int .i64 ((j:Int))) ?_
  refine sv 11 (.int .i64 (((pv (rs R m D) j:Nat):Int))) ?_
  refine sq_nil ?_
  refine k24 _ _ ?_
  try clear k24 K24
  refine rg [0,1,2,3,4,5,6,7,8,9,10] ?_
  refine sv 30 (.slice (some ⟨b16,0,none⟩) D D) ?_
  refine sv 31 (.int .i64 (((pv (rs R m D) j:Nat):Int))) ?_
  refine sv 32 u12 ?_
  refine sv 33 (.int .i64 ((j:Int))) ?_
  refine sw 34 (adr u12 (j*1)) rfl (rv_idxn (e:=49) hs12 tb_len (by decide) j (by omega) _ _ _ rfl rfl rfl (by kernel_rfl) (by kernel_rfl)) ?_
  obtain ⟨_,_,⟨u26,rfl,hr26⟩,at26⟩:=Sl.get hs12 (by decide) (tb_get (f:=(fun z0=>tb (fun z1=>((rs R m D).m z0 z1)) (D+1))) (n:=R) (i:=j) (by omega))
  refine sw 35 u26 rfl (rv_ld1 u26 (at26.gr hc12) _ _ rfl rfl (by kernel_rfl)) ?_
  refine sv 36 (.int .i64 ((D:Int))) ?_
  refine sw 37 (adr u26 (D*4)) rfl (rv_idxn (e:=71) hr26 tb_len (by decide) D (by omega) _ _ _ rfl rfl rfl (by kernel_rfl) (by kernel_rfl)) ?_
  obtain ⟨_,_,⟨cA27,cB27,cC27,cD27,rfl,h27⟩,at27⟩:=Sl.get hr26 (by decide) (tb_get (f:=(fun z1=>((rs R m D).m j z1))) (n:=(D+1)) (i:=D) (by omega))
  refine sw 38 (.agg #[cA27,cB27,cC27,cD27]) rfl (rv_ldn [cA27,cB27,cC27,cD27] (at27.gr hc12) _ _ rfl rfl (by kernel_rfl)) ?_
  refine sw 39 (adr (.slice (some ⟨b16,0,none⟩) D D) ((pv (rs R m D) j)*4)) rfl (rv_idxn (e:=71) (n:=D) (mx.sl_n (n:=D) (cap:=D) (tb_len) (Nat.le_refl _)) (tb_len) (by decide) (pv (rs R m D) j) (by omega) _ _ _ rfl rfl rfl (by kernel_rfl) (by kernel_rfl)) ?_
  refine se ?_
  refine eff_stm (stab_rat K) mx (pv (rs R m D) j) (by rw [tb_len];omega) (((rs R m D).m j D)) (.agg #[cA27,cB27,cC27,cD27]) [cA27,cB27,cC27,cD27] (D) (D) 71 _ _ rfl rfl rfl rfl rfl (by kernel_rfl) rfl ⟨h27.one0,h27.one1,h27.one2,h27.one3,trivial⟩ ⟨_,_,_,_,rfl,(h27.kp hc12.kp).mono (by omega)⟩ (by decide) (fun w28 st28 kt28 mk28=>?_)
  replace hB:=st28.gr hB q16
  replace hc12:=st28.gr hc12 q16_hc12
  refine sq_nil ?_
  refine k23 _ _ ?_
  try clear k23 K23
  refine rg [0,1] ?_
  refine sw 40 (.int .i64 (((j:Int)+1))) rfl (RunV.int (x:=IntKind.i64.wrap (((j:Int)+1))) (y:=((j:Int)+1)) (rvk (by kernel_rfl)) (by first | rfl | (rw [IntKind.wrap_i64];omega))) ?_
  refine sv 25 (.int .i64 (((j:Int)+1))) ?_
  refine sq_nil ?_
  refine k19 (pl R m D - (j+1)) ⟨List.toArray ?l29,[]⟩ _ (by omega) ?_
  exact ⟨j+1,(fun i=>List.getD ?l29 i undef),rfl,rfl,(by omega),(mk28.cast (pik_set hlj rfl)),hc12,hB⟩
 ·have hej:j=pl R m D:=by have:=of_decide_eq_false hb22;omega
  refine wp_exit ?_
  simp only [Exit.then,Exit.inBlock,↓reduceIte]
  refine k17 _ _ ?_
  try clear k17 K17
  refine wp_seq_k (fun K30 k30=>?_)
  refine wp_seq_k (fun K31 k31=>?_)
  refine rg [0,1,2,3,4,5] ?_
  refine sv 41 u12 ?_
  refine sv 42 v12 ?_
  refine sw 43 (.int .i64 (((pl R m D:Nat):Int))) rfl (rv_lenn (e:=3) hp12 (tb_lenz rfl) _ _ rfl rfl (by kernel_rfl)) ?_
  have hs32:=hs12.subt (show (pl R m D)≤R by omega) (show R≤R by omega)
  refine sw 44 (subv u12 (pl R m D) R 1) rfl (rv_subt (e:=49) hs12 (pl R m D) R (by omega) (by omega) _ _ _ _ rfl rfl (.inr rfl) (.inl ⟨rfl,rfl⟩) (by kernel_rfl) (by kernel_rfl)) ?_
  refine sw 45 (.int .i64 (((R - (pl R m D):Nat):Int))) rfl (rv_lenn (e:=49) hs32 (tb_lenz rfl) _ _ rfl rfl (by kernel_rfl)) ?_
  refine sv 46 (.int .i64 0) ?_
  refine sq_nil ?_
  refine k31 _ _ ?_
  try clear k31 K31
  refine wp_block ?_
  refine wp_loop_inv (a:=⟨List.toArray ?l33,[]⟩) (fun n a w'=>∃ (i:Nat) (u33:Nat→Value),R - pl R m D - i=n∧a=⟨[v,(.int .i64 ((D:Int))),undef,undef,(u33 4),(u33 5),u12,v12,(u33 8),(.slice (some ⟨b16,0,none⟩) D D),(u19 10),(u19 11),undef,(u33 13),(u33 14),(u33 15),(u33 16),(u33 17),(u33 18),(u33 19),(u33 20),(u33 21),(u33 22),v12,(.int .i64 (((pl R m D:Nat):Int))),(.int .i64 ((j:Int))),(.bool (decide ((j:Int)<((pl R m D:Nat):Int)))),(u33 27),(u33 28),(u33 29),(u33 30),(u33 31),(u33 32),(u33 33),(u33 34),(u33 35),(u33 36),(u33 37),(u33 38),(u33 39),(u33 40),(u33 41),(u33 42),(u33 43),(subv u12 (pl R m D) R 1),(.int .i64 (((R - (pl R m D):Nat):Int))),(.int .i64 ((i:Int))),(u33 47),(u33 48),(u33 49),(u33 50),(u33 51),(u33 52),(u33 53),(u33 54),(u33 55),(u33 56),undef].toArray,[]⟩∧i≤R - pl R m D∧(∀ t,pl R m D≤t→t<pl R m D+i→(rs R m D).m t D=0)∧Mk (ERat K) 71 4 w' b16 (tb (fun z1=>pik R m D (fun t=>(rs R m D).m t D) (pl R m D) z1) D)∧Gr w12 w'∧Gr w w') (R - pl R m D - 0) ?_ ?_
  ·exact ⟨0,(fun i=>List.getD ?l33 i undef),rfl,rfl,(Nat.zero_le _),(fun t h1 h2=>absurd h2 (by omega)),(by rw [← hej];exact mx),hc12,hB⟩
  rintro n33 a33 w33 ⟨i,u33,rfl,rfl,hki,hall,my,hc12,hB⟩ K33 k33
  refine wp_seq_k (fun K34 k34=>?_)
  refine rg [0] ?_
  refine sv 47 (.bool (decide ((i:Int)<((R - (pl R m D):Nat):Int)))) ?_
  refine sq_nil ?_
  refine k34 _ _ ?_
  try clear k34 K34
  refine wp_seq_k (fun K35 k35=>?_)
  refine wp_cond_split (t:=decide ((i:Int)<((R - (pl R m D):Nat):Int))) rfl (fun hb36=>?_) (fun hb36=>?_)
  ·have hli:i<R - pl R m D:=by have:=of_decide_eq_true hb36;omega
   refine wp_skip ?_
   refine k35 _ _ ?_
   try clear k35 K35
   refine wp_seq_k (fun K37 k37=>?_)
   refine wp_block ?_
   refine wp_seq_k (fun K38 k38=>?_)
   refine rg [0,1,2] ?_
   refine sw 48 (adr (subv u12 (pl R m D) R 1) (i*1)) rfl (rv_idxn (e:=49) hs32 tb_len (by decide) i (by omega) _ _ _ rfl rfl rfl (by kernel_rfl) (by kernel_rfl)) ?_
   obtain ⟨_,_,⟨u39,rfl,hr39⟩,at39⟩:=Sl.get hs32 (by decide) (tb_get (f:=(fun z3=>(fun z0=>tb (fun z1=>((rs R m D).m z0 z1)) (D+1)) ((pl R m D)+z3))) (n:=(R - (pl R m D))) (i:=i) (by omega))
   refine sw 49 u39 rfl (rv_ld1 u39 (at39.gr hc12) _ _ rfl rfl (by kernel_rfl)) ?_
   refine sv 13 u39 ?_
   refine sq_nil ?_
   refine k38 _ _ ?_
   try clear k38 K38
   refine wp_seq_k (fun K40 k40=>?_)
   refine rg [0,1,2,3,4,5] ?_
   refine sv 50 u39 ?_
   refine sv 51 (.int .i64 ((D:Int))) ?_
   refine sw 52 (adr u39 (D*4)) rfl (rv_idxn (e:=71) hr39 tb_len (by decide) D (by omega) _ _ _ rfl rfl rfl (by kernel_rfl) (by kernel_rfl)) ?_
   obtain ⟨_,_,⟨cA41,cB41,cC41,cD41,rfl,h41⟩,at41⟩:=Sl.get hr39 (by decide) (tb_get (f:=(fun z1=>((rs R m D).m ((pl R m D)+i) z1))) (n:=(D+1)) (i:=D) (by omega))
   refine sw 53 (.agg #[cA41,cB41,cC41,cD41]) rfl (rv_ldn [cA41,cB41,cC41,cD41] (at41.gr hc12) _ _ rfl rfl (by kernel_rfl)) ?_
   refine se ?_
   refine ec 54 (sign_r (h41.kp hc12.kp)) ?_
   rintro e42 w42 ⟨rfl,g42⟩
   refine ⟨_,rfl,?_⟩
   replace hB:=hB.trans g42
   replace hc12:=hc12.trans g42
   simp only [p3,p4]
   refine sv 55 (.bool ((sgn (((rs R m D).m ((pl R m D)+i) D)).num !=(0:Int)))) ?_
   refine sq_nil ?_
   refine k40 _ _ ?_
   try clear k40 K40
   refine wp_cond_split (t:=(sgn (((rs R m D).m ((pl R m D)+i) D)).num !=(0:Int))) rfl (fun hb43=>?_) (fun hb43=>?_)
   ·have hnz:=sgn_nez' hb43
    refine wp_seq_k (fun K44 k44=>?_)
    refine rg [0,1] ?_
    refine sv 4 (.slice none 0 0) ?_
    refine sv 5 (.int .i64 21) ?_
    refine sq_nil ?_
    refine k44 _ _ ?_
    try clear k44 K44
    refine wp_ret ?_
    simp only [Exit.then,Exit.inBlock]
    refine bodyPost_ret (v:=(.tuple #[(.slice none 0 0),(.int .i64 21)])) (ret_tmp2 rfl rfl rfl) rfl ⟨?_,hB⟩
    exact (absurd (hfit _ (Nat.le_add_right _ _) (by omega)) hnz)
   ·have hnz:=sgn_z' hb43
    refine wp_skip ?_
    refine k37 _ _ ?_
    try clear k37 K37
    refine rg [0,1] ?_
    refine sw 56 (.int .i64 (((i:Int)+1))) rfl (RunV.int (x:=IntKind.i64.wrap (((i:Int)+1))) (y:=((i:Int)+1)) (rvk (by kernel_rfl)) (by first | rfl | (rw [IntKind.wrap_i64];omega))) ?_
    refine sv 46 (.int .i64 (((i:Int)+1))) ?_
    refine sq_nil ?_
    replace my:=my.gr (stab_rat K) g42
    refine k33 (R - pl R m D - (i+1)) ⟨List.toArray ?l45,[]⟩ _ (by omega) ?_
    exact ⟨i+1,(fun i=>List.getD ?l45 i undef),rfl,rfl,(by omega),(fit_succ hall hnz),my,hc12,hB⟩
  ·have hei:R - pl R m D≤i:=by have:=of_decide_eq_false hb36;omega
   refine wp_exit ?_
   simp only [Exit.then,Exit.inBlock,↓reduceIte]
   refine k30 _ _ ?_
   try clear k30 K30
   refine wp_seq_k (fun K46 k46=>?_)
   refine rg [0,1,2] ?_
   refine sv 57 (.slice (some ⟨b16,0,none⟩) D D) ?_
   refine sv 4 (.slice (some ⟨b16,0,none⟩) D D) ?_
   refine sv 5 (.int .i64 0) ?_
   refine sq_nil ?_
   refine k46 _ _ ?_
   try clear k46 K46
   refine wp_ret ?_
   refine bodyPost_ret (v:=(.tuple #[(.slice (some ⟨b16,0,none⟩) D D),(.int .i64 0)])) (ret_tmp2 rfl rfl rfl) rfl ⟨?_,hB⟩
   exact ⟨_,rfl,(my.sl_n (tb_len) (Nat.le_refl _))⟩

set_option maxRecDepth 100000 in
set_option maxHeartbeats 1000000 in
theorem mx_solved_n {K R D:Nat} {v:Value} {m:Mx_} (hK:64≤K) (_hK2:K≤20000) (_hR2:R≤256) (_hN2:D≤96) (hz:∀ k,k≤D→RdZ R (D+1) K (rs R m k)) (hfit:¬ (∀ t,pl R m D≤t→t<R→(rs R m D).m t D=0)) {w:World} (hs:Sl (ERw (ERat K) 71 4) 49 1 w v (tb (fun z0=>tb (fun z1=>(m z0 z1)) (D+1)) R)):
    Calls Tryz.prog 76 #[v,(.int .i64 ((D:Int)))] w fun e w'=>e=.returned (.tuple #[.slice none 0 0,.int .i64 21])∧Gr w w':=by
 go_enter Tryz.func76,Tryz.ntmps76
 have hB:=Gr.refl w
 refine wp_seq_k (fun K10 k10=>?_)
 refine rg [0,1] ?_
 refine sv 4 (.slice none 0 0) ?_
 refine sv 5 (.int .i64 0) ?_
 refine sq_nil ?_
 refine k10 _ _ ?_
 try clear k10 K10
 refine wp_seq_k (fun K11 k11=>?_)
 refine rg [0,1,2,3,4,5,6,7,8,9,10] ?_
 refine sv 15 v ?_
 refine sv 16 (.int .i64 ((D:Int))) ?_
 refine se ?_
 have hlen12:=rs_len R m D
 have hple12:=rs_ple R m D
 refine ec 17 (mx_reduced (by omega) (by omega) (by omega) (by omega) (by omega) hz (hs.gr (stab_rw (stab_rat K) 71 4) hB)) ?_
 rintro e12 w12 ⟨⟨u12,v12,p12,q12,r12,s12,rfl,hs12,hp12,h12⟩,g12⟩
 refine ⟨_,rfl,?_⟩
 replace hB:=hB.trans g12
 have lehc12:=Below.size hB
 have hc12:=Gr.refl w12
 simp only [p3,p4]
 refine sv 14 (.tuple #[u12,v12,(.agg #[p12,q12,r12,s12])]) ?_
 refine sv 18 u12 ?_
 refine sv 19 v12 ?_
 refine sv 20 (.agg #[p12,q12,r12,s12]) ?_
 refine se ?_
 refine ea 71 #[(.bool false),(.slice none 0 0),(.bool false),(.slice none 0 0)] 8 hB fun b13 w13 g13 L13 o13 q13 hB=>?_
 have q13_hc12:=Nat.le_trans (Below.size hc12) o13
 replace hc12:=hc12.trans g13
 simp only [p3,p4]
 refine sv 6 u12 ?_
 refine sv 7 v12 ?_
 refine se ?_
 have lo14:=L13
 refine es 71 0 (.agg #[p12,q12,r12,s12]) [p12,q12,r12,s12] #[p12,q12,r12,s12] L13 hB q13 ⟨h12.one0,h12.one1,h12.one2,h12.one3,trivial⟩ fun w14 st14 kp14 L13 hB=>?_
 replace hc12:=st14.gr hc12 q13_hc12
 refine sq_nil ?_
 refine k11 _ _ ?_
 try clear k11 K11
 refine wp_seq_k (fun K15 k15=>?_)
 refine rg [0,1,2] ?_
 refine sv 21 (.int .i64 ((D:Int))) ?_
 refine se ?_
 refine eff_mk (E:=(ERat K)) (0:Rat) 49 71 (.agg #[(.bool false),(.slice none 0 0),(.bool false),(.slice none 0 0)]) D 4 64 (some 22) rfl rfl rfl rfl (by kernel_rfl) (by kernel_rfl) (by decide) (by omega) (by decide) (fun w2=>erat_zero K hK w2) (fun b16 w16 g16 mk16 q16=>?_)
 have q16_hc12:=Nat.le_trans (Below.size hc12) q16
 replace q16:=Nat.le_trans (Below.size hB) q16
 replace hB:=hB.trans g16
 replace hc12:=hc12.trans g16
 simp only [putl,p3,p4]
 refine sv 9 (.slice (some ⟨b16,0,none⟩) D D) ?_
 refine sq_nil ?_
 refine k15 _ _ ?_
 try clear k15 K15
 refine wp_seq_k (fun K17 k17=>?_)
 refine wp_seq_k (fun K18 k18=>?_)
 refine rg [0,1,2] ?_
 refine sv 23 v12 ?_
 refine sw 24 (.int .i64 (((pl R m D:Nat):Int))) rfl (rv_lenn (e:=3) hp12 (tb_lenz rfl) _ _ rfl rfl (by kernel_rfl)) ?_
 refine sv 25 (.int .i64 0) ?_
 refine sq_nil ?_
 refine k18 _ _ ?_
 try clear k18 K18
 refine wp_block ?_
 refine wp_loop_inv (a:=⟨List.toArray ?l19,[]⟩) (fun n a w'=>∃ (j:Nat) (u19:Nat→Value),pl R m D - j=n∧a=⟨[v,(.int .i64 ((D:Int))),undef,undef,(.slice none 0 0),(.int .i64 0),u12,v12,(u19 8),(.slice (some ⟨b16,0,none⟩) D D),(u19 10),(u19 11),undef,undef,(u19 14),(u19 15),(u19 16),(u19 17),(u19 18),(u19 19),(u19 20),(u19 21),(u19 22),v12,(.int .i64 (((pl R m D:Nat):Int))),(.int .i64 ((j:Int))),(u19 26),(u19 27),(u19 28),(u19 29),(u19 30),(u19 31),(u19 32),(u19 33),(u19 34),(u19 35),(u19 36),(u19 37),(u19 38),(u19 39),(u19 40),undef,undef,undef,undef,undef,undef,undef,undef,undef,undef,undef,undef,undef,undef,undef,undef,undef].toArray,[]⟩∧j≤pl R m D∧Mk (ERat K) 71 4 w' b16 (tb (fun z1=>pik R m D (fun t=>(rs R m D).m t D) j z1) D)∧Gr w12 w'∧Gr w w') (pl R m D - 0) ?_ ?_
 ·exact ⟨0,(fun i=>List.getD ?l19 i undef),rfl,rfl,(Nat.zero_le _),(mk16.cast pik_zero),hc12,hB⟩
 rintro n19 a19 w19 ⟨j,u19,rfl,rfl,hkj,mx,hc12,hB⟩ K19 k19
 refine wp_seq_k (fun K20 k20=>?_)
 refine rg [0] ?_
 refine sv 26 (.bool (decide ((j:Int)<((pl R m D:Nat):Int)))) ?_
 refine sq_nil ?_
 refine k20 _ _ ?_
 try clear k20 K20
 refine wp_seq_k (fun K21 k21=>?_)
 refine wp_cond_split (t:=decide ((j:Int)<((pl R m D:Nat):Int))) rfl (fun hb22=>?_) (fun hb22=>?_)
 ·have hlj:j<pl R m D:=by have:=of_decide_eq_true hb22;omega
  have hpj:=rs_pv hlj
  refine wp_skip ?_
  refine k21 _ _ ?_
  try clear k21 K21
  refine wp_seq_k (fun K23 k23=>?_)
  refine wp_block ?_
  refine wp_seq_k (fun K24 k24=>?_)
  refine rg [0,1,2,3,4] ?_
  refine sv 27 (.int .i64 ((j:Int))) ?_
  refine sw 28 (adr v12 (j*1)) rfl (rv_idxn (e:=3) hp12 tb_len (by decide) j (by omega) _ _ _ rfl rfl rfl (by kernel_rfl) (by kernel_rfl)) ?_
  obtain ⟨_,_,rfl,at25⟩:=Sl.get hp12 (by decide) (tb_get (f:=(fun z1=>((pv (rs R m D) z1:Nat):Int))) (n:=(pl R m D)) (i:=j) (by omega))
  refine sw 29 (.int .i64 (((pv (rs R m D) j:Nat):Int))) rfl (rv_ld1 (.int .i64 (((pv (rs R m D) j:Nat):Int))) (at25.gr hc12) _ _ rfl rfl (by kernel_rfl)) ?_
  refine sv 10 (.int .i64 ((j:Int))) ?_
  refine sv 11 (.int .i64 (((pv (rs R m D) j:Nat):Int))) ?_
  refine sq_nil ?_
  refine k24 _ _ ?_
  try clear k24 K24
  refine rg [0,1,2,3,4,5,6,7,8,9,10] ?_
  refine sv 30 (.slice (some ⟨b16,0,none⟩) D D) ?_
  refine sv 31 (.int .i64 (((pv (rs R m D) j:Nat):Int))) ?_
  refine sv 32 u12 ?_
  refine sv 33 (.int .i64 ((j:Int))) ?_
  refine sw 34 (adr u12 (j*1)) rfl (rv_idxn (e:=49) hs12 tb_len (by decide) j (by omega) _ _ _ rfl rfl rfl (by kernel_rfl) (by kernel_rfl)) ?_
  obtain ⟨_,_,⟨u26,rfl,hr26⟩,at26⟩:=Sl.get hs12 (by decide) (tb_get (f:=(fun z0=>tb (fun z1=>((rs R m D).m z0 z1)) (D+1))) (n:=R) (i:=j) (by omega))
  refine sw 35 u26 rfl (rv_ld1 u26 (at26.gr hc12) _ _ rfl rfl (by kernel_rfl)) ?_
  refine sv 36 (.int .i64 ((D:Int))) ?_
  refine sw 37 (adr u26 (D*4)) rfl (rv_idxn (e:=71) hr26 tb_len (by decide) D (by omega) _ _ _ rfl rfl rfl (by kernel_rfl) (by kernel_rfl)) ?_
  obtain ⟨_,_,⟨cA27,cB27,cC27,cD27,rfl,h27⟩,at27⟩:=Sl.get hr26 (by decide) (tb_get (f:=(fun z1=>((rs R m D).m j z1))) (n:=(D+1)) (i:=D) (by omega))
  refine sw 38 (.agg #[cA27,cB27,cC27,cD27]) rfl (rv_ldn [cA27,cB27,cC27,cD27] (at27.gr hc12) _ _ rfl rfl (by kernel_rfl)) ?_
  refine sw 39 (adr (.slice (some ⟨b16,0,none⟩) D D) ((pv (rs R m D) j)*4)) rfl (rv_idxn (e:=71) (n:=D) (mx.sl_n (n:=D) (cap:=D) (tb_len) (Nat.le_refl _)) (tb_len) (by decide) (pv (rs R m D) j) (by omega) _ _ _ rfl rfl rfl (by kernel_rfl) (by kernel_rfl)) ?_
  refine se ?_
  refine eff_stm (stab_rat K) mx (pv (rs R m D) j) (by rw [tb_len];omega) (((rs R m D).m j D)) (.agg #[cA27,cB27,cC27,cD27]) [cA27,cB27,cC27,cD27] (D) (D) 71 _ _ rfl rfl rfl rfl rfl (by kernel_rfl) rfl ⟨h27.one0,h27.one1,h27.one2,h27.one3,trivial⟩ ⟨_,_,_,_,rfl,(h27.kp hc12.kp).mono (by omega)⟩ (by decide) (fun w28 st28 kt28 mk28=>?_)
  replace hB:=st28.gr hB q16
  replace hc12:=st28.gr hc12 q16_hc12
  refine sq_nil ?_
  refine k23 _ _ ?_
  try clear k23 K23
  refine rg [0,1] ?_
  refine sw 40 (.int .i64 (((j:Int)+1))) rfl (RunV.int (x:=IntKind.i64.wrap (((j:Int)+1))) (y:=((j:Int)+1)) (rvk (by kernel_rfl)) (by first | rfl | (rw [IntKind.wrap_i64];omega))) ?_
  refine sv 25 (.int .i64 (((j:Int)+1))) ?_
  refine sq_nil ?_
  refine k19 (pl R m D - (j+1)) ⟨List.toArray ?l29,[]⟩ _ (by omega) ?_
  exact ⟨j+1,(fun i=>List.getD ?l29 i undef),rfl,rfl,(by omega),(mk28.cast (pik_set hlj rfl)),hc12,hB⟩
 ·have hej:j=pl R m D:=by have:=of_decide_eq_false hb22;omega
  refine wp_exit ?_
  simp only [Exit.then,Exit.inBlock,↓reduceIte]
  refine k17 _ _ ?_
  try clear k17 K17
  refine wp_seq_k (fun K30 k30=>?_)
  refine wp_seq_k (fun K31 k31=>?_)
  refine rg [0,1,2,3,4,5] ?_
  refine sv 41 u12 ?_
  refine sv 42 v12 ?_
  refine sw 43 (.int .i64 (((pl R m D:Nat):Int))) rfl (rv_lenn (e:=3) hp12 (tb_lenz rfl) _ _ rfl rfl (by kernel_rfl)) ?_
  have hs32:=hs12.subt (show (pl R m D)≤R by omega) (show R≤R by omega)
  refine sw 44 (subv u12 (pl R m D) R 1) rfl (rv_subt (e:=49) hs12 (pl R m D) R (by omega) (by omega) _ _ _ _ rfl rfl (.inr rfl) (.inl ⟨rfl,rfl⟩) (by kernel_rfl) (by kernel_rfl)) ?_
  refine sw 45 (.int .i64 (((R - (pl R m D):Nat):Int))) rfl (rv_lenn (e:=49) hs32 (tb_lenz rfl) _ _ rfl rfl (by kernel_rfl)) ?_
  refine sv 46 (.int .i64 0) ?_
  refine sq_nil ?_
  refine k31 _ _ ?_
  try clear k31 K31
  refine wp_block ?_
  refine wp_loop_inv (a:=⟨List.toArray ?l33,[]⟩) (fun n a w'=>∃ (i:Nat) (u33:Nat→Value),R - pl R m D - i=n∧a=⟨[v,(.int .i64 ((D:Int))),undef,undef,(u33 4),(u33 5),u12,v12,(u33 8),(.slice (some ⟨b16,0,none⟩) D D),(u19 10),(u19 11),undef,(u33 13),(u33 14),(u33 15),(u33 16),(u33 17),(u33 18),(u33 19),(u33 20),(u33 21),(u33 22),v12,(.int .i64 (((pl R m D:Nat):Int))),(.int .i64 ((j:Int))),(.bool (decide ((j:Int)<((pl R m D:Nat):Int)))),(u33 27),(u33 28),(u33 29),(u33 30),(u33 31),(u33 32),(u33 33),(u33 34),(u33 35),(u33 36),(u33 37),(u33 38),(u33 39),(u33 40),(u33 41),(u33 42),(u33 43),(subv u12 (pl R m D) R 1),(.int .i64 (((R - (pl R m D):Nat):Int))),(.int .i64 ((i:Int))),(u33 47),(u33 48),(u33 49),(u33 50),(u33 51),(u33 52),(u33 53),(u33 54),(u33 55),(u33 56),undef].toArray,[]⟩∧i≤R - pl R m D∧(∀ t,pl R m D≤t→t<pl R m D+i→(rs R m D).m t D=0)∧Mk (ERat K) 71 4 w' b16 (tb (fun z1=>pik R m D (fun t=>(rs R m D).m t D) (pl R m D) z1) D)∧Gr w12 w'∧Gr w w') (R - pl R m D - 0) ?_ ?_
  ·exact ⟨0,(fun i=>List.getD ?l33 i undef),rfl,rfl,(Nat.zero_le _),(fun t h1 h2=>absurd h2 (by omega)),(by rw [← hej];exact mx),hc12,hB⟩
  rintro n33 a33 w33 ⟨i,u33,rfl,rfl,hki,hall,my,hc12,hB⟩ K33 k33
  refine wp_seq_k (fun K34 k34=>?_)
  refine rg [0] ?_
  refine sv 47 (.bool (decide ((i:Int)<((R - (pl R m D):Nat):Int)))) ?_
  refine sq_nil ?_
  refine k34 _ _ ?_
  try clear k34 K34
  refine wp_seq_k (fun K35 k35=>?_)
  refine wp_cond_split (t:=decide ((i:Int)<((R - (pl R m D):Nat):Int))) rfl (fun hb36=>?_) (fun hb36=>?_)
  ·have hli:i<R - pl R m D:=by have:=of_decide_eq_true hb36;omega
   refine wp_skip ?_
   refine k35 _ _ ?_
   try clear k35 K35
   refine wp_seq_k (fun K37 k37=>?_)
   refine wp_block ?_
   refine wp_seq_k (fun K38 k38=>?_)
   refine rg [0,1,2] ?_
   refine sw 48 (adr (subv u12 (pl R m D) R 1) (i*1)) rfl (rv_idxn (e:=49) hs32 tb_len (by decide) i (by omega) _ _ _ rfl rfl rfl (by kernel_rfl) (by kernel_rfl)) ?_
   obtain ⟨_,_,⟨u39,rfl,hr39⟩,at39⟩:=Sl.get hs32 (by decide) (tb_get (f:=(fun z3=>(fun z0=>tb (fun z1=>((rs R m D).m z0 z1)) (D+1)) ((pl R m D)+z3))) (n:=(R - (pl R m D))) (i:=i) (by omega))
   refine sw 49 u39 rfl (rv_ld1 u39 (at39.gr hc12) _ _ rfl rfl (by kernel_rfl)) ?_
   refine sv 13 u39 ?_
   refine sq_nil ?_
   refine k38 _ _ ?_
   try clear k38 K38
   refine wp_seq_k (fun K40 k40=>?_)
   refine rg [0,1,2,3,4,5] ?_
   refine sv 50 u39 ?_
   refine sv 51 (.int .i64 ((D:Int))) ?_
   refine sw 52 (adr u39 (D*4)) rfl (rv_idxn (e:=71) hr39 tb_len (by decide) D (by omega) _ _ _ rfl rfl rfl (by kernel_rfl) (by kernel_rfl)) ?_
   obtain ⟨_,_,⟨cA41,cB41,cC41,cD41,rfl,h41⟩,at41⟩:=Sl.get hr39 (by decide) (tb_get (f:=(fun z1=>((rs R m D).m ((pl R m D)+i) z1))) (n:=(D+1)) (i:=D) (by omega))
   refine sw 53 (.agg #[cA41,cB41,cC41,cD41]) rfl (rv_ldn [cA41,cB41,cC41,cD41] (at41.gr hc12) _ _ rfl rfl (by kernel_rfl)) ?_
   refine se ?_
   refine ec 54 (sign_r (h41.kp hc12.kp)) ?_
   rintro e42 w42 ⟨rfl,g42⟩
   refine ⟨_,rfl,?_⟩
   replace hB:=hB.trans g42
   replace hc12:=hc12.trans g42
   simp only [p3,p4]
   refine sv 55 (.bool ((sgn (((rs R m D).m ((pl R m D)+i) D)).num !=(0:Int)))) ?_
   refine sq_nil ?_
   refine k40 _ _ ?_
   try clear k40 K40
   refine wp_cond_split (t:=(sgn (((rs R m D).m ((pl R m D)+i) D)).num !=(0:Int))) rfl (fun hb43=>?_) (fun hb43=>?_)
   ·have hnz:=sgn_nez' hb43
    refine wp_seq_k (fun K44 k44=>?_)
    refine rg [0,1] ?_
    refine sv 4 (.slice none 0 0) ?_
    refine sv 5 (.int .i64 21) ?_
    refine sq_nil ?_
    refine k44 _ _ ?_
    try clear k44 K44
    refine wp_ret ?_
    simp only [Exit.then,Exit.inBlock]
    refine bodyPost_ret (v:=(.tuple #[(.slice none 0 0),(.int .i64 21)])) (ret_tmp2 rfl rfl rfl) rfl ⟨?_,hB⟩
    exact rfl
   ·have hnz:=sgn_z' hb43
    refine wp_skip ?_
    refine k37 _ _ ?_
    try clear k37 K37
    refine rg [0,1] ?_
    refine sw 56 (.int .i64 (((i:Int)+1))) rfl (RunV.int (x:=IntKind.i64.wrap (((i:Int)+1))) (y:=((i:Int)+1)) (rvk (by kernel_rfl)) (by first | rfl | (rw [IntKind.wrap_i64];omega))) ?_
    refine sv 46 (.int .i64 (((i:Int)+1))) ?_
    refine sq_nil ?_
    replace my:=my.gr (stab_rat K) g42
    refine k33 (R - pl R m D - (i+1)) ⟨List.toArray ?l45,[]⟩ _ (by omega) ?_
    exact ⟨i+1,(fun i=>List.getD ?l45 i undef),rfl,rfl,(by omega),(fit_succ hall hnz),my,hc12,hB⟩
  ·have hei:R - pl R m D≤i:=by have:=of_decide_eq_false hb36;omega
   refine wp_exit ?_
   simp only [Exit.then,Exit.inBlock,↓reduceIte]
   refine k30 _ _ ?_
   try clear k30 K30
   refine wp_seq_k (fun K46 k46=>?_)
   refine rg [0,1,2] ?_
   refine sv 57 (.slice (some ⟨b16,0,none⟩) D D) ?_
   refine sv 4 (.slice (some ⟨b16,0,none⟩) D D) ?_
   refine sv 5 (.int .i64 0) ?_
   refine sq_nil ?_
   refine k46 _ _ ?_
   try clear k46 K46
   refine wp_ret ?_
   refine bodyPost_ret (v:=(.tuple #[(.slice (some ⟨b16,0,none⟩) D D),(.int .i64 0)])) (ret_tmp2 rfl rfl rfl) rfl ⟨?_,hB⟩
   exact (absurd (fun t h1 h2=>hall t h1 (by omega)) hfit)

end Go.Proofs.YtepgkcimmdmgcaaGreatDoor
