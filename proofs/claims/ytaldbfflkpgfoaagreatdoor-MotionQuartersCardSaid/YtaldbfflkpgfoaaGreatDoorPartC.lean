/- Joined of: Gen3, Rat1, Gen4, Str, Txt, Gen12, Nbr, R2a, R2b, R2c, R2d, R2e, Scale, Pa1, Pa2, Gen31, Gen35, Gen32, Rat2, Gen33, Gen34, Lit2, Gen37, Mk, Rd1, Rd2, Rd3, Ok2, Ars, Arr, Gen5, Gen6, Gen60, Rord. -/
import Derived.Test.YtaldbfflkpgfoaaGreatDoorPartB
import Derived.Test.YtaldbfflkpgfoaaGreatDoorPartA
import Derived.Lib.SmallJoins
import Derived.Laws.RangeString
import Derived.Shelf.Strings.SlTrimAscii
import Derived.ChangeKeysEq
import Derived.Laws.StructEq
namespace Go.Proofs.YtaldbfflkpgfoaaGreatDoor
open Go.RowKit

set_option maxRecDepth 100000 in
set_option maxHeartbeats 1000000 in
theorem whole_z {k:Nat} {c0 c1 c2 c3:Value} {w:World} (hd:IsInt w k c2 c3 0):
    Calls Tryz.prog 78 #[(.agg #[c0,c1,c2,c3])] w fun e w'=>e=.returned (.bool true)∧Gr w w':=by
 go_enter Tryz.func78,Tryz.ntmps78
 have hB:=Gr.refl w
 refine wp_seq_k (fun K1 k1=>?_)
 refine rg [0,1] ?_
 refine se ?_
 refine eb 36 #[c0,c1,c2,c3] 1 hB fun b2 w2 g2 L2 o2 q2 hB=>?_
 simp only [p3,p4]
 refine sv 2 (.bool false) ?_
 refine za0 ?_
 refine k1 _ _ ?_
 try clear k1 K1
 refine wp_seq_k (fun K3 k3=>?_)
 have aa:=Gr.drew w2
 replace hB:=hB.trans aa
 replace L2:=L2.gr aa
 refine za2 (fun w'=>Lc w' b2 #[c0,c1,c2,c3] 36) [(true,0),(true,1),(false,2),(true,3),(true,4),(true,5),(true,6),(false,7),(false,8),(true,9),(true,10),(true,11)] (by kernel_rfl) (by kernel_rfl) (by kernel_rfl) (by decide) (fun _ _ _ _ _ h=>h) L2 ?_
 refine ov 3 (.pointer (some ⟨b2,2,none⟩)) ?_
 refine ow 4 (.agg #[c2,c3]) rfl (fun w' hS=>(rl 34 2 [c2,c3] hS)) ?_
 refine oe ?_
 have ab:=g2.kp.trans aa.kp
 replace hd:=hd.kp ab
 refine ec 5 (zD4 hd) ?_
 rintro ad ae ⟨rfl,ac⟩
 refine ⟨_,rfl,?_⟩
 replace hB:=hB.trans ac
 replace L2:=L2.gr ac
 refine ⟨L2,?_⟩
 simp only [p3,p4]
 refine ov 6 (.bool true) ?_
 refine ov 7 (.bool true) ?_
 refine os 8 ?_
 refine os 9 ?_
 refine oz 10 L2 ?_
 refine oz 11 L2 ?_
 refine os 12 ?_
 refine ov 13 (.bool true) ?_
 refine ov 2 (.bool true) ?_
 refine zb1 ?_
 refine k3 _ _ ?_
 try clear k3 K3
 refine wp_ret ?_
 refine bodyPost_ret (v:=(.bool true)) (za7 rfl rfl) rfl ⟨?_,hB⟩
 exact rfl

set_option maxRecDepth 100000 in
set_option maxHeartbeats 1000000 in
theorem whole_p {k:Nat} {c0 c1 c2 c3:Value} {D:Int} {w:World} (hd:IsInt w k c2 c3 D) (_h0:0<D) (_hk:k≤1000000):
    Calls Tryz.prog 78 #[(.agg #[c0,c1,c2,c3])] w fun e w'=>e=.returned (.bool (sgn (D - 1)==0))∧Gr w w':=by
 go_enter Tryz.func78,Tryz.ntmps78
 have hB:=Gr.refl w
 refine wp_seq_k (fun K1 k1=>?_)
 refine rg [0,1] ?_
 refine se ?_
 refine eb 36 #[c0,c1,c2,c3] 1 hB fun b2 w2 g2 L2 o2 q2 hB=>?_
 simp only [p3,p4]
 refine sv 2 (.bool false) ?_
 refine za0 ?_
 refine k1 _ _ ?_
 try clear k1 K1
 refine wp_seq_k (fun K3 k3=>?_)
 have aa:=Gr.drew w2
 replace hB:=hB.trans aa
 replace L2:=L2.gr aa
 refine za2 (fun w'=>Lc w' b2 #[c0,c1,c2,c3] 36) [(true,0),(true,1),(false,2),(true,3),(true,4),(true,5),(true,6),(false,7),(false,8),(true,9),(true,10),(true,11)] (by kernel_rfl) (by kernel_rfl) (by kernel_rfl) (by decide) (fun _ _ _ _ _ h=>h) L2 ?_
 refine ov 3 (.pointer (some ⟨b2,2,none⟩)) ?_
 refine ow 4 (.agg #[c2,c3]) rfl (fun w' hS=>(rl 34 2 [c2,c3] hS)) ?_
 refine oe ?_
 have ae:=g2.kp.trans aa.kp
 replace hd:=hd.kp ae
 refine ec 5 (zj0 hd (by omega)) ?_
 rintro au ai ⟨rfl,ac⟩
 refine ⟨_,rfl,?_⟩
 replace hB:=hB.trans ac
 replace L2:=L2.gr ac
 refine ⟨L2,?_⟩
 simp only [p3,p4]
 refine ov 6 (.bool false) ?_
 refine ov 7 (.bool false) ?_
 refine ov 8 (.pointer (some ⟨b2,2,none⟩)) ?_
 refine ow 9 (.agg #[c2,c3]) rfl (fun w' hS=>(rl 34 2 [c2,c3] hS)) ?_
 refine oe ?_
 refine ec 10 (zQ1 _) ?_
 rintro ak aq ⟨⟨ar,al,rfl,ah⟩,ad⟩
 refine ⟨_,rfl,?_⟩
 replace hB:=hB.trans ad
 replace L2:=L2.gr ad
 refine ⟨L2,?_⟩
 simp only [p3,p4]
 refine oe ?_
 have ab:=ac.kp.trans ad.kp
 replace hd:=hd.kp ab
 refine ec 11 (zf2 hd ah (by omega) (by omega)) ?_
 rintro ap aj ⟨rfl,af⟩
 refine ⟨_,rfl,?_⟩
 replace hB:=hB.trans af
 replace L2:=L2.gr af
 refine ⟨L2,?_⟩
 simp only [p3,p4]
 refine ov 12 (.bool ((sgn (D - 1)==(0:Int)))) ?_
 refine ov 13 (.bool ((sgn (D - 1)==(0:Int)))) ?_
 refine ov 2 (.bool ((sgn (D - 1)==(0:Int)))) ?_
 refine zb1 ?_
 refine k3 _ _ ?_
 try clear k3 K3
 refine wp_ret ?_
 refine bodyPost_ret (v:=(.bool ((sgn (D - 1)==(0:Int))))) (za7 rfl rfl) rfl ⟨?_,hB⟩
 exact rfl

set_option maxRecDepth 100000 in
set_option maxHeartbeats 1000000 in
theorem den_z {k:Nat} {c0 c1 c2 c3:Value} {w:World} (hd:IsInt w k c2 c3 0):
    Calls Tryz.prog 81 #[(.agg #[c0,c1,c2,c3])] w fun e w'=>(∃ x' y',e=.returned (.agg #[x',y'])∧IsInt w' 64 x' y' (1))∧Gr w w':=by
 go_enter Tryz.func81,Tryz.ntmps81
 have hB:=Gr.refl w
 refine wp_seq_k (fun K1 k1=>?_)
 refine rg [0,1] ?_
 refine se ?_
 refine eb 36 #[c0,c1,c2,c3] 1 hB fun b2 w2 g2 L2 o2 q2 hB=>?_
 simp only [p3,p4]
 refine se ?_
 refine ea 34 #[.bool false,.slice none 0 0] 2 hB fun b3 w3 g3 L3 o3 q3 hB=>?_
 simp only [p3,p4]
 refine za0 ?_
 refine k1 _ _ ?_
 try clear k1 K1
 refine wp_seq_k (fun K4 k4=>?_)
 refine wp_seq_k (fun K5 k5=>?_)
 refine rg [0,1,2,3] ?_
 refine sv 3 (.pointer (some ⟨b2,2,none⟩)) ?_
 replace L2:=L2.gr g3
 refine sw 4 (.agg #[c2,c3]) rfl (rl 34 2 [c2,c3] L2) ?_
 refine se ?_
 have ac:=g2.kp.trans g3.kp
 replace hd:=hd.kp ac
 refine ec 5 (zD4 hd) ?_
 rintro e6 w6 ⟨rfl,g6⟩
 refine ⟨_,rfl,?_⟩
 replace hB:=hB.trans g6
 simp only [p3,p4]
 refine sv 6 (.bool true) ?_
 refine za0 ?_
 refine k5 _ _ ?_
 try clear k5 K5
 refine wp_cond_true rfl ?_
 refine wp_seq_k (fun K8 k8=>?_)
 refine rg [0,1] ?_
 refine se ?_
 refine ec 7 (zQ1 _) ?_
 rintro e9 w9 ⟨⟨x9,y9,rfl,h9⟩,g9⟩
 refine ⟨_,rfl,?_⟩
 replace hB:=hB.trans g9
 simp only [p3,p4]
 refine se ?_
 replace L3:=L3.gr (g6.trans g9)
 refine es 34 0 (.agg #[x9,y9]) [x9,y9] #[x9,y9] L3 hB q3 ⟨h9.one0,h9.one1,trivial⟩ fun ad ab aa L3 hB=>?_
 refine za0 ?_
 refine k8 _ _ ?_
 try clear k8 K8
 refine wp_ret ?_
 simp only [Exit.then]
 refine bodyPost_ret (v:=(.agg #[x9,y9])) (zb0 _ _ _ rfl rfl L3 (by kernel_rfl)) rfl ⟨?_,hB⟩
 replace h9:=h9.kp aa
 exact ⟨_,_,rfl,h9⟩

set_option maxRecDepth 100000 in
set_option maxHeartbeats 1000000 in
theorem den_p {k:Nat} {c0 c1 c2 c3:Value} {D:Int} {w:World} (hd:IsInt w k c2 c3 D) (_h0:0<D):
    Calls Tryz.prog 81 #[(.agg #[c0,c1,c2,c3])] w fun e w'=>(∃ x' y',e=.returned (.agg #[x',y'])∧IsInt w' k x' y' (D))∧Gr w w':=by
 go_enter Tryz.func81,Tryz.ntmps81
 have hB:=Gr.refl w
 refine wp_seq_k (fun K1 k1=>?_)
 refine rg [0,1] ?_
 refine se ?_
 refine eb 36 #[c0,c1,c2,c3] 1 hB fun b2 w2 g2 L2 o2 q2 hB=>?_
 simp only [p3,p4]
 refine se ?_
 refine ea 34 #[.bool false,.slice none 0 0] 2 hB fun b3 w3 g3 L3 o3 q3 hB=>?_
 simp only [p3,p4]
 refine za0 ?_
 refine k1 _ _ ?_
 try clear k1 K1
 refine wp_seq_k (fun K4 k4=>?_)
 refine wp_seq_k (fun K5 k5=>?_)
 refine rg [0,1,2,3] ?_
 refine sv 3 (.pointer (some ⟨b2,2,none⟩)) ?_
 replace L2:=L2.gr g3
 refine sw 4 (.agg #[c2,c3]) rfl (rl 34 2 [c2,c3] L2) ?_
 refine se ?_
 have ab:=g2.kp.trans g3.kp
 replace hd:=hd.kp ab
 refine ec 5 (zj0 hd (by omega)) ?_
 rintro e6 w6 ⟨rfl,g6⟩
 refine ⟨_,rfl,?_⟩
 replace hB:=hB.trans g6
 simp only [p3,p4]
 refine sv 6 (.bool false) ?_
 refine za0 ?_
 refine k5 _ _ ?_
 try clear k5 K5
 refine wp_cond_false rfl ?_
 refine wp_skip ?_
 refine k4 _ _ ?_
 try clear k4 K4
 refine wp_seq_k (fun K8 k8=>?_)
 refine rg [0,1,2] ?_
 refine sv 8 (.pointer (some ⟨b2,2,none⟩)) ?_
 replace L2:=L2.gr g6
 refine sw 9 (.agg #[c2,c3]) rfl (rl 34 2 [c2,c3] L2) ?_
 refine se ?_
 replace L3:=L3.gr g6
 refine es 34 0 (.agg #[c2,c3]) [c2,c3] #[c2,c3] L3 hB q3 ⟨hd.one0,hd.one1,trivial⟩ fun w9 ad ac L3 hB=>?_
 refine za0 ?_
 refine k8 _ _ ?_
 try clear k8 K8
 refine wp_ret ?_
 refine bodyPost_ret (v:=(.agg #[c2,c3])) (zb0 _ _ _ rfl rfl L3 (by kernel_rfl)) rfl ⟨?_,hB⟩
 have aa:=g6.kp.trans ac
 replace hd:=hd.kp aa
 exact ⟨_,_,rfl,hd⟩

set_option maxRecDepth 100000 in
set_option maxHeartbeats 1000000 in
theorem yf4 {k:Nat} {n0 n1 d0 d1:Value} {N D:Int} {w:World} (hn:IsInt w k n0 n1 N) (hd:IsInt w k d0 d1 D) (_hk:k+k+k+k+k+k+66≤1000000) (_h0:0<D) (hg:(sgn ((Int.gcd (N) (D):Int) - 1) !=0)=false):
    Calls Tryz.prog 95 #[(.agg #[n0,n1]),(.agg #[d0,d1])] w fun e w'=>(∃ x y x2 y2,e=.returned (.agg #[x,y,x2,y2])∧IsInt w' k x y (N)∧IsInt w' k x2 y2 (D))∧Gr w w':=by
 go_enter Tryz.func95,Tryz.ntmps95
 have hB:=Gr.refl w
 refine wp_seq_k (fun K1 k1=>?_)
 refine rg [0,1,2] ?_
 refine se ?_
 refine eb 34 #[n0,n1] 2 hB fun b2 w2 g2 L2 o2 q2 hB=>?_
 simp only [p3,p4]
 refine se ?_
 refine eb 34 #[d0,d1] 3 hB fun b3 w3 g3 L3 o3 q3 hB=>?_
 simp only [p3,p4]
 refine se ?_
 refine ea 36 #[.bool false,.slice none 0 0,.bool false,.slice none 0 0] 4 hB fun b4 w4 g4 L4 o4 q4 hB=>?_
 replace L2:=L2.gr g3
 simp only [p3,p4]
 refine za0 ?_
 refine k1 _ _ ?_
 try clear k1 K1
 refine wp_seq_k (fun K5 k5=>?_)
 refine wp_seq_k (fun K6 k6=>?_)
 refine rg [0,1,2] ?_
 replace L3:=L3.gr g4
 refine sw 6 (.agg #[d0,d1]) rfl (rl 34 0 [d0,d1] L3) ?_
 refine se ?_
 have aH:=g2.kp.trans (g3.kp.trans g4.kp)
 replace hd:=hd.kp aH
 refine ec 7 (zj0 hd (by omega)) ?_
 rintro e7 w7 ⟨rfl,g7⟩
 refine ⟨_,rfl,?_⟩
 replace hB:=hB.trans g7
 simp only [p3,p4]
 refine sv 8 (.bool false) ?_
 refine za0 ?_
 refine k6 _ _ ?_
 try clear k6 K6
 refine wp_cond_false rfl ?_
 refine wp_skip ?_
 refine k5 _ _ ?_
 try clear k5 K5
 refine wp_seq_k (fun K9 k9=>?_)
 refine rg [0,1,2,3,4] ?_
 replace L2:=L2.gr (g4.trans g7)
 refine sw 13 (.agg #[n0,n1]) rfl (rl 34 0 [n0,n1] L2) ?_
 replace L3:=L3.gr g7
 refine sw 14 (.agg #[d0,d1]) rfl (rl 34 0 [d0,d1] L3) ?_
 refine se ?_
 have aw:=g2.kp.trans (g3.kp.trans (g4.kp.trans g7.kp))
 replace hn:=hn.kp aw
 replace hd:=hd.kp g7.kp
 refine ec 15 (yg0 hn hd (by omega)) ?_
 rintro aS aP ⟨⟨ai,aj,rfl,ar⟩,ap⟩
 refine ⟨_,rfl,?_⟩
 replace hB:=hB.trans ap
 simp only [p3,p4]
 refine se ?_
 refine ea 34 #[.bool false,.slice none 0 0] 5 hB fun aF aL au ab av q12 hB=>?_
 replace L2:=L2.gr ap
 have ac:=L2.ne av
 replace L3:=L3.gr ap
 have ae:=L3.ne av
 replace L4:=L4.gr (g7.trans ap)
 have ad:=L4.ne av
 simp only [p3,p4]
 refine se ?_
 refine es 34 0 (.agg #[ai,aj]) [ai,aj] #[ai,aj] ab hB q12 ⟨ar.one0,ar.one1,trivial⟩ fun aJ ah al ab hB=>?_
 refine za0 ?_
 refine k9 _ _ ?_
 try clear k9 K9
 refine wp_seq_k (fun aG aA=>?_)
 refine wp_seq_k (fun aI aB=>?_)
 have aa:=Gr.drew aJ
 replace hB:=hB.trans aa
 replace ab:=ab.gr aa
 refine za2 (fun w'=>Lc w' aF #[ai,aj] 34) [(true,0),(false,1),(false,2),(true,3)] (by kernel_rfl) (by kernel_rfl) (by kernel_rfl) (by decide) (fun _ _ _ _ _ h=>h) ab ?_
 refine ow 16 (.agg #[ai,aj]) rfl (fun w' hS=>(rl 34 0 [ai,aj] hS)) ?_
 refine oe ?_
 refine ec 17 (zQ1 _) ?_
 rintro aT aN ⟨⟨aM,aR,rfl,aE⟩,af⟩
 refine ⟨_,rfl,?_⟩
 replace hB:=hB.trans af
 replace ab:=ab.gr af
 refine ⟨ab,?_⟩
 simp only [p3,p4]
 refine oe ?_
 have ax:=au.kp.trans (al.trans (aa.kp.trans af.kp))
 replace ar:=ar.kp ax
 refine ec 18 (zf2 ar aE (by omega) (by omega)) ?_
 rintro aK aQ ⟨rfl,ak⟩
 refine ⟨_,rfl,?_⟩
 replace hB:=hB.trans ak
 replace ab:=ab.gr ak
 refine ⟨ab,?_⟩
 simp only [p3,p4]
 refine ow 19 (.bool false) rfl (fun w' hS=>(RunV.bool (x:=(sgn ((Int.gcd (N) (D):Int) - 1) !=(0:Int))) (rvk (by kernel_rfl)) hg)) ?_
 refine zb1 ?_
 refine aB _ _ ?_
 try clear aB aI
 refine wp_cond_false rfl ?_
 refine wp_skip ?_
 refine aA _ _ ?_
 try clear aA aG
 refine wp_seq_k (fun aC az=>?_)
 refine rg [0,1,2,3] ?_
 replace L2:=(ah.lc (L2.gr au) ac).gr (aa.trans (af.trans ak))
 refine sw 34 (.agg #[n0,n1]) rfl (rl 34 0 [n0,n1] L2) ?_
 replace L3:=(ah.lc (L3.gr au) ae).gr (aa.trans (af.trans ak))
 refine sw 35 (.agg #[d0,d1]) rfl (rl 34 0 [d0,d1] L3) ?_
 refine sv 36 (.agg #[n0,n1,d0,d1]) ?_
 refine se ?_
 replace L4:=(ah.lc (L4.gr au) ad).gr (aa.trans (af.trans ak))
 refine es 36 0 (.agg #[n0,n1,d0,d1]) [n0,n1,d0,d1] #[n0,n1,d0,d1] L4 hB q4 ⟨hn.one0,hn.one1,hd.one0,hd.one1,trivial⟩ fun aO aD ay L4 hB=>?_
 refine za0 ?_
 refine az _ _ ?_
 try clear az aC
 refine wp_ret ?_
 refine bodyPost_ret (v:=(.agg #[n0,n1,d0,d1])) (zb0 _ _ _ rfl rfl L4 (by kernel_rfl)) rfl ⟨?_,hB⟩
 have aq:=ap.kp.trans (au.kp.trans (al.trans (aa.kp.trans (af.kp.trans (ak.kp.trans ay)))))
 replace hn:=hn.kp aq
 replace hd:=hd.kp aq
 exact ⟨_,_,_,_,rfl,hn,hd⟩

set_option maxRecDepth 100000 in
set_option maxHeartbeats 1000000 in
theorem yf5 {k:Nat} {n0 n1 d0 d1:Value} {N D:Int} {w:World} (hn:IsInt w k n0 n1 N) (hd:IsInt w k d0 d1 D) (_hk:k+k+k+k+k+k+66≤1000000) (_h0:0<D) (hg:(sgn ((Int.gcd (N) (D):Int) - 1) !=0)=true) (hxn:0<(Int.gcd (N) (D):Int)∧(Int.gcd (N) (D):Int)∣N) (_hxd:0<(Int.gcd (N) (D):Int)∧(Int.gcd (N) (D):Int)∣D):
    Calls Tryz.prog 95 #[(.agg #[n0,n1]),(.agg #[d0,d1])] w fun e w'=>(∃ x y x2 y2,e=.returned (.agg #[x,y,x2,y2])∧IsInt w' k x y (N/(Int.gcd (N) (D):Int))∧IsInt w' k x2 y2 (D/(Int.gcd (N) (D):Int)))∧Gr w w':=by
 go_enter Tryz.func95,Tryz.ntmps95
 have hB:=Gr.refl w
 refine wp_seq_k (fun K1 k1=>?_)
 refine rg [0,1,2] ?_
 refine se ?_
 refine eb 34 #[n0,n1] 2 hB fun b2 w2 g2 L2 o2 q2 hB=>?_
 simp only [p3,p4]
 refine se ?_
 refine eb 34 #[d0,d1] 3 hB fun b3 w3 g3 L3 o3 q3 hB=>?_
 have aq:=L2.ne o3
 simp only [p3,p4]
 refine se ?_
 refine ea 36 #[.bool false,.slice none 0 0,.bool false,.slice none 0 0] 4 hB fun b4 w4 g4 L4 o4 q4 hB=>?_
 replace L2:=L2.gr g3
 have aL:=L2.ne o4
 have aJ:=L3.ne o4
 simp only [p3,p4]
 refine za0 ?_
 refine k1 _ _ ?_
 try clear k1 K1
 refine wp_seq_k (fun K5 k5=>?_)
 refine wp_seq_k (fun K6 k6=>?_)
 refine rg [0,1,2] ?_
 replace L3:=L3.gr g4
 refine sw 6 (.agg #[d0,d1]) rfl (rl 34 0 [d0,d1] L3) ?_
 refine se ?_
 have a7:=g2.kp.trans (g3.kp.trans g4.kp)
 replace hd:=hd.kp a7
 refine ec 7 (zj0 hd (by omega)) ?_
 rintro e7 w7 ⟨rfl,g7⟩
 refine ⟨_,rfl,?_⟩
 replace hB:=hB.trans g7
 simp only [p3,p4]
 refine sv 8 (.bool false) ?_
 refine za0 ?_
 refine k6 _ _ ?_
 try clear k6 K6
 refine wp_cond_false rfl ?_
 refine wp_skip ?_
 refine k5 _ _ ?_
 try clear k5 K5
 refine wp_seq_k (fun K9 k9=>?_)
 refine rg [0,1,2,3,4] ?_
 replace L2:=L2.gr (g4.trans g7)
 refine sw 13 (.agg #[n0,n1]) rfl (rl 34 0 [n0,n1] L2) ?_
 replace L3:=L3.gr g7
 refine sw 14 (.agg #[d0,d1]) rfl (rl 34 0 [d0,d1] L3) ?_
 refine se ?_
 have aR:=g2.kp.trans (g3.kp.trans (g4.kp.trans g7.kp))
 replace hn:=hn.kp aR
 replace hd:=hd.kp g7.kp
 refine ec 15 (yg0 hn hd (by omega)) ?_
 rintro bp bm ⟨⟨aj,ak,rfl,ai⟩,aC⟩
 refine ⟨_,rfl,?_⟩
 replace hB:=hB.trans aC
 simp only [p3,p4]
 refine se ?_
 refine ea 34 #[.bool false,.slice none 0 0] 5 hB fun a4 bf aD ab aQ q12 hB=>?_
 replace L2:=L2.gr aC
 have ah:=L2.ne aQ
 replace L3:=L3.gr aC
 have az:=L3.ne aQ
 replace L4:=L4.gr (g7.trans aC)
 have ay:=L4.ne aQ
 simp only [p3,p4]
 refine se ?_
 refine es 34 0 (.agg #[aj,ak]) [aj,ak] #[aj,ak] ab hB q12 ⟨ai.one0,ai.one1,trivial⟩ fun a9 aA av ab hB=>?_
 refine za0 ?_
 refine k9 _ _ ?_
 try clear k9 K9
 refine wp_seq_k (fun a6 aX=>?_)
 refine wp_seq_k (fun a8 aZ=>?_)
 have aa:=Gr.drew a9
 replace hB:=hB.trans aa
 replace ab:=ab.gr aa
 refine za2 (fun w'=>Lc w' a4 #[aj,ak] 34) [(true,0),(false,1),(false,2),(true,3)] (by kernel_rfl) (by kernel_rfl) (by kernel_rfl) (by decide) (fun _ _ _ _ _ h=>h) ab ?_
 refine ow 16 (.agg #[aj,ak]) rfl (fun w' hS=>(rl 34 0 [aj,ak] hS)) ?_
 refine oe ?_
 refine ec 17 (zQ1 _) ?_
 rintro bq bj ⟨⟨bg,bo,rfl,a3⟩,al⟩
 refine ⟨_,rfl,?_⟩
 replace hB:=hB.trans al
 replace ab:=ab.gr al
 refine ⟨ab,?_⟩
 simp only [p3,p4]
 refine oe ?_
 have aU:=aD.kp.trans (av.trans (aa.kp.trans al.kp))
 replace ai:=ai.kp aU
 refine ec 18 (zf2 ai a3 (by omega) (by omega)) ?_
 rintro bd bn ⟨rfl,ap⟩
 refine ⟨_,rfl,?_⟩
 replace hB:=hB.trans ap
 replace ab:=ab.gr ap
 refine ⟨ab,?_⟩
 simp only [p3,p4]
 refine ow 19 (.bool true) rfl (fun w' hS=>(RunV.bool (x:=(sgn ((Int.gcd (N) (D):Int) - 1) !=(0:Int))) (rvk (by kernel_rfl)) hg)) ?_
 refine zb1 ?_
 refine aZ _ _ ?_
 try clear aZ a8
 refine wp_cond_true rfl ?_
 refine wp_seq_k (fun a2 aW=>?_)
 refine rg [0,1,2,3,4,5,6,7] ?_
 replace L2:=(aA.lc (L2.gr aD) ah).gr (aa.trans (al.trans ap))
 refine sw 21 (.agg #[n0,n1]) rfl (rl 34 0 [n0,n1] L2) ?_
 refine sw 22 (.agg #[aj,ak]) rfl (rl 34 0 [aj,ak] ab) ?_
 refine se ?_
 have aV:=aC.kp.trans (aD.kp.trans (av.trans (aa.kp.trans (al.kp.trans ap.kp))))
 replace hn:=hn.kp aV
 replace ai:=ai.kp ap.kp
 refine ec 23 (zt5 hn ai hxn.1 (by omega)) ?_
 rintro bb bk ⟨⟨ac,af,aH,aI,rfl,au,a5⟩,aB⟩
 refine ⟨_,rfl,?_⟩
 replace hB:=hB.trans aB
 simp only [p3,p4]
 refine sv 20 (.tuple #[(.agg #[ac,af]),(.agg #[aH,aI]),.int .i64 0]) ?_
 refine sv 24 (.agg #[ac,af]) ?_
 refine sv 25 (.agg #[aH,aI]) ?_
 refine sv 26 (.int .i64 0) ?_
 refine se ?_
 replace L2:=L2.gr aB
 refine es 34 0 (.agg #[ac,af]) [ac,af] #[ac,af] L2 hB q2 ⟨au.one0,au.one1,trivial⟩ fun bi aw ax L2 hB=>?_
 refine za0 ?_
 refine aW _ _ ?_
 try clear aW a2
 refine rg [0,1,2,3,4,5,6,7] ?_
 replace L3:=aw.lc ((aA.lc (L3.gr aD) az).gr (aa.trans (al.trans (ap.trans aB)))) (Ne.symm aq)
 refine sw 28 (.agg #[d0,d1]) rfl (rl 34 0 [d0,d1] L3) ?_
 replace ab:=aw.lc (ab.gr aB) (Ne.symm ah)
 refine sw 29 (.agg #[aj,ak]) rfl (rl 34 0 [aj,ak] ab) ?_
 refine se ?_
 have aT:=aC.kp.trans (aD.kp.trans (av.trans (aa.kp.trans (al.kp.trans (ap.kp.trans (aB.kp.trans ax))))))
 replace hd:=hd.kp aT
 have aP:=aB.kp.trans ax
 replace ai:=ai.kp aP
 refine ec 30 (zt5 hd ai hxn.1 (by omega)) ?_
 rintro e32 bh ⟨⟨ae,ad,aF,aM,rfl,ar,a1⟩,aG⟩
 refine ⟨_,rfl,?_⟩
 replace hB:=hB.trans aG
 simp only [p3,p4]
 refine sv 27 (.tuple #[(.agg #[ae,ad]),(.agg #[aF,aM]),.int .i64 0]) ?_
 refine sv 31 (.agg #[ae,ad]) ?_
 refine sv 32 (.agg #[aF,aM]) ?_
 refine sv 33 (.int .i64 0) ?_
 refine se ?_
 replace L3:=L3.gr aG
 refine es 34 0 (.agg #[ae,ad]) [ae,ad] #[ae,ad] L3 hB q3 ⟨ar.one0,ar.one1,trivial⟩ fun bc aN aK L3 hB=>?_
 refine za0 ?_
 refine aX _ _ ?_
 try clear aX a6
 refine wp_seq_k (fun ba aY=>?_)
 refine rg [0,1,2,3] ?_
 replace L2:=aN.lc (L2.gr aG) aq
 refine sw 34 (.agg #[ac,af]) rfl (rl 34 0 [ac,af] L2) ?_
 refine sw 35 (.agg #[ae,ad]) rfl (rl 34 0 [ae,ad] L3) ?_
 refine sv 36 (.agg #[ac,af,ae,ad]) ?_
 refine se ?_
 replace L4:=aN.lc ((aw.lc ((aA.lc (L4.gr aD) ay).gr (aa.trans (al.trans (ap.trans aB)))) (Ne.symm aL)).gr aG) (Ne.symm aJ)
 refine es 36 0 (.agg #[ac,af,ae,ad]) [ac,af,ae,ad] #[ac,af,ae,ad] L4 hB q4 ⟨au.one0,au.one1,ar.one0,ar.one1,trivial⟩ fun bt a0 aE L4 hB=>?_
 refine za0 ?_
 refine aY _ _ ?_
 try clear aY ba
 refine wp_ret ?_
 refine bodyPost_ret (v:=(.agg #[ac,af,ae,ad])) (zb0 _ _ _ rfl rfl L4 (by kernel_rfl)) rfl ⟨?_,hB⟩
 have aO:=ax.trans (aG.kp.trans (aK.trans aE))
 replace au:=au.kp aO
 have aS:=aK.trans aE
 replace ar:=ar.kp aS
 exact ⟨_,_,_,_,rfl,au,ar⟩

theorem zc8 {z:Int}:sgn z=0↔z=0:=by
 unfold sgn
 by_cases h:z<0
 ·rw [if_pos h];omega
 ·rw [if_neg h]
  by_cases h2:z=0
  ·simp [h2]
  ·rw [if_neg h2];omega
theorem yq9 {k:Nat} {c0 c1 c2 c3:Value} {q:Rat} {w:World} (h:IsRat w k c0 c1 c2 c3 q) (hk:k≤1000000):
  Calls Tryz.prog 78 #[.agg #[c0,c1,c2,c3]] w fun e w'=>e=.returned (.bool (decide (q.den=1)))∧Gr w w':=by
 obtain ⟨D,h2,h3⟩:=h.den
 have hp:=q.den_pos
 rcases h3 with h3 | ⟨h3,h4⟩
 ·have e:(sgn (D - 1)==0)=decide (q.den=1):=by
   rw [Bool.eq_iff_iff,beq_iff_eq,zc8,decide_eq_true_iff];omega
  have:=whole_p (c0:=c0) (c1:=c1) h2 (by omega) hk
  rw [e] at this
  exact this
 ·subst h3
  have e:decide (q.den=1)=true:=by simpa using h4
  rw [e]
  exact whole_z h2
theorem zi2 {k:Nat} {c0 c1 c2 c3:Value} {q:Rat} {w:World} (h:IsRat w k c0 c1 c2 c3 q) (hk:k≤1000000) (hq:q.den=1):
  Calls Tryz.prog 78 #[.agg #[c0,c1,c2,c3]] w fun e w'=>e=.returned (.bool true)∧Gr w w':=by
 have:=yq9 h hk
 rw [decide_eq_true hq] at this
 exact this
theorem zo5 {k:Nat} {c0 c1 c2 c3:Value} {q:Rat} {w:World} (h:IsRat w k c0 c1 c2 c3 q) (hk:k≤1000000) (hq:q.den≠1):
  Calls Tryz.prog 78 #[.agg #[c0,c1,c2,c3]] w fun e w'=>e=.returned (.bool false)∧Gr w w':=by
 have:=yq9 h hk
 rw [decide_eq_false hq] at this
 exact this
theorem zl5 {k:Nat} {c0 c1 c2 c3:Value} {q:Rat} {w:World} (h:IsRat w k c0 c1 c2 c3 q):
  Calls Tryz.prog 81 #[.agg #[c0,c1,c2,c3]] w fun e w'=>(∃ x' y',e=.returned (.agg #[x',y'])∧IsInt w' k x' y' (q.den:Int))∧Gr w w':=by
 obtain ⟨D,h2,h3⟩:=h.den
 have hp:=q.den_pos
 rcases h3 with h3 | ⟨h3,h4⟩
 ·subst h3
  exact den_p h2 (by omega)
 ·subst h3
  refine (den_z (c0:=c0) (c1:=c1) h2).mono ?_
  rintro e w1 ⟨⟨x,y,he,hi⟩,g⟩
  rw [h4]
  exact ⟨⟨x,y,he,hi.mono h.big⟩,g⟩
theorem add_e {k m:Nat} (n:Nat) {x y x2 y2:Value} {z u:Int} {w:World} (hz:IsInt w k x y z) (hu:IsInt w m x2 y2 u) (h1:k≤n) (h2:m≤n) (hk:2*n+1≤1000000):
  Calls Tryz.prog 129 #[.agg #[x,y],.agg #[x2,y2]] w fun e w'=>(∃ x' y',e=.returned (.agg #[x',y'])∧IsInt w' (n+1) x' y' (z+u))∧Gr w w':=by
 refine (add_i (hz.mono h1) (hu.mono h2) (by omega)).mono ?_
 rintro e w1 ⟨⟨x,y,he,hi⟩,g⟩
 exact ⟨⟨x,y,he,hi.resz ((hz.sz.mono h1).add' (hu.sz.mono h2))⟩,g⟩

theorem zo6 {k m:Nat} (K:Nat) {n0 n1 d0 d1:Value} {N D:Int} {w:World} (hn:IsInt w k n0 n1 N) (hd:IsInt w m d0 d1 D) (h0:0<D) (h1:k≤K) (h2:m≤K) (h3:64≤K) (h4:8*K≤1000000):
  Calls Tryz.prog 95 #[.agg #[n0,n1],.agg #[d0,d1]] w fun e w'=>(∃ c0 c1 c2 c3,e=.returned (.agg #[c0,c1,c2,c3])∧IsRat w' K c0 c1 c2 c3 (Rat.divInt N D))∧Gr w w':=by
 have hN:=hn.mono h1
 have hD:=hd.mono h2
 have en:(Rat.divInt N D).num=N/(Int.gcd N D:Int):=by
  rw [Rat.num_divInt,Int.sign_eq_one_of_pos h0,Int.one_mul,Int.gcd_comm]
 have ed:((Rat.divInt N D).den:Int)=D/(Int.gcd N D:Int):=by
  rw [Rat.den_divInt,if_neg (by omega),Int.gcd_comm,Int.natCast_ediv]
  congr 1
  omega
 have ab:0<(Int.gcd N D:Int):=by
  have:Int.gcd N D≠0:=by rw [Ne,Int.gcd_eq_zero_iff];omega
  omega
 by_cases hg:(Int.gcd N D:Int)=1
 ·refine (yf4 hN hD (by omega) h0 (by rw [hg];rfl)).mono ?_
  rintro e w1 ⟨⟨x,y,x2,y2,he,hi,aa⟩,g⟩
  rw [hg,Int.ediv_one] at en ed
  exact ⟨⟨x,y,x2,y2,he,by rw [en];exact hi,⟨D,aa,.inl ed.symm⟩,h3⟩,g⟩
 ·have hb:(sgn ((Int.gcd N D:Int) - 1) !=0)=true:=by
   have:sgn ((Int.gcd N D:Int) - 1)≠0:=fun h=>hg (by have:=zc8.1 h;omega)
   simpa using this
  refine (yf5 hN hD (by omega) h0 hb ⟨ab,Int.gcd_dvd_left ..⟩ ⟨ab,Int.gcd_dvd_right ..⟩).mono ?_
  rintro e w1 ⟨⟨x,y,x2,y2,he,hi,aa⟩,g⟩
  exact ⟨⟨x,y,x2,y2,he,by rw [en];exact hi,⟨_,aa,.inl ed.symm⟩,h3⟩,g⟩

theorem zN4 (a b:Rat):Rat.divInt (a.num*b.den+b.num*a.den) (a.den*b.den)=a+b:=by
 have:=Rat.divInt_add_divInt a.num b.num (d₁:=a.den) (d₂:=b.den) (by have:=a.den_pos;omega) (by have:=b.den_pos;omega)
 rw [Rat.num_divInt_den,Rat.num_divInt_den] at this
 exact this.symm
theorem zN5 (a b:Rat):Rat.divInt (a.num*b.num) (a.den*b.den)=a*b:=by
 have:=Rat.divInt_mul_divInt a.num b.num (d₁:=a.den) (d₂:=b.den)
 rw [Rat.num_divInt_den,Rat.num_divInt_den] at this
 exact this.symm
theorem zF3 {q:Rat} (h:q.den=1):((q.num:Int):Rat)=q:=by
 apply Rat.ext
 ·exact Rat.num_intCast _
 ·rw [h];exact Rat.den_intCast _
theorem zW6 (a b:Rat):Rat.divInt (a.num*b.den) (a.den*b.num)=a/b:=by
 rw [Rat.div_def,Rat.inv_def]
 have:=Rat.divInt_mul_divInt a.num b.den (d₁:=a.den) (d₂:=b.num)
 rw [Rat.num_divInt_den] at this
 exact this.symm
theorem IsRat.neg {w:World} {k:Nat} {c0 c1 c2 c3 x y:Value} {q:Rat} (h:IsRat w k c0 c1 c2 c3 q) (hi:IsInt w k x y (-q.num)):IsRat w k x y c2 c3 (-q):=by
 obtain ⟨D,h2,h3⟩:=h.den
 exact ⟨hi,⟨D,h2,h3⟩,h.big⟩
def yh3 (a b:Rat):Int:=sgn (a.num*b.den - b.num*a.den)
theorem rcmp_int {a b:Rat} (ha:a.den=1) (hb:b.den=1):yh3 a b=sgn (a.num - b.num):=by
 unfold yh3;rw [ha,hb];simp
theorem zS0 {a b:Rat}:yh3 a b=0↔a=b:=by
 unfold yh3
 rw [zc8]
 constructor
 ·intro h
  rw [← Rat.num_divInt_den a,← Rat.num_divInt_den b]
  rw [Rat.divInt_eq_divInt_iff (by have:=a.den_pos;omega) (by have:=b.den_pos;omega)]
  omega
 ·rintro rfl;omega
set_option maxRecDepth 100000 in
set_option maxHeartbeats 1000000 in
theorem add_tt {k m:Nat} {u0 u1 u2 u3 v0 v1 v2 v3:Value} {a b:Rat} {w:World} (ha:IsRat w k u0 u1 u2 u3 a) (hb:IsRat w m v0 v1 v2 v3 b) (_hk:k+m≤100000) (wa:a.den=1) (wb:b.den=1):
    Calls Tryz.prog 103 #[(.agg #[u0,u1,u2,u3]),(.agg #[v0,v1,v2,v3])] w fun e w'=>(∃ c0 c1 c2 c3,e=.returned (.agg #[c0,c1,c2,c3])∧IsRat w' (k+m+1) c0 c1 c2 c3 (a+b))∧Gr w w':=by
 have hka:=ha.big
 have hkb:=hb.big
 go_enter Tryz.func103,Tryz.ntmps103
 have hB:=Gr.refl w
 refine wp_seq_k (fun K1 k1=>?_)
 refine rg [0,1,2] ?_
 refine se ?_
 refine eb 36 #[u0,u1,u2,u3] 2 hB fun b2 w2 g2 L2 o2 q2 hB=>?_
 simp only [p3,p4]
 refine se ?_
 refine eb 36 #[v0,v1,v2,v3] 3 hB fun b3 w3 g3 L3 o3 q3 hB=>?_
 simp only [p3,p4]
 refine se ?_
 refine ea 36 #[.bool false,.slice none 0 0,.bool false,.slice none 0 0] 4 hB fun b4 w4 g4 L4 o4 q4 hB=>?_
 replace L2:=L2.gr g3
 simp only [p3,p4]
 refine za0 ?_
 refine k1 _ _ ?_
 try clear k1 K1
 refine wp_seq_k (fun K5 k5=>?_)
 refine wp_seq_k (fun K6 k6=>?_)
 refine rg [0,1,2,3,4,5] ?_
 replace L2:=L2.gr g4
 refine sw 5 (.agg #[u0,u1,u2,u3]) rfl (rl 36 0 [u0,u1,u2,u3] L2) ?_
 refine se ?_
 have al:=g2.kp.trans (g3.kp.trans g4.kp)
 replace ha:=ha.kp al
 refine ec 6 (zi2 ha (by omega) wa) ?_
 rintro e7 w7 ⟨rfl,g7⟩
 refine ⟨_,rfl,?_⟩
 replace hB:=hB.trans g7
 simp only [p3,p4]
 refine sv 7 (.bool true) ?_
 replace L3:=L3.gr (g4.trans g7)
 refine sw 8 (.agg #[v0,v1,v2,v3]) rfl (rl 36 0 [v0,v1,v2,v3] L3) ?_
 refine se ?_
 have af:=g2.kp.trans (g3.kp.trans (g4.kp.trans g7.kp))
 replace hb:=hb.kp af
 refine ec 9 (zi2 hb (by omega) wb) ?_
 rintro e9 w9 ⟨rfl,g9⟩
 refine ⟨_,rfl,?_⟩
 replace hB:=hB.trans g9
 simp only [p3,p4]
 refine sv 10 (.bool true) ?_
 refine za0 ?_
 refine k6 _ _ ?_
 try clear k6 K6
 refine wp_cond_true rfl ?_
 refine wp_seq_k (fun aj ah=>?_)
 refine rg [0,1,2,3,4,5,6] ?_
 refine sv 11 (.pointer (some ⟨b2,0,none⟩)) ?_
 replace L2:=L2.gr (g7.trans g9)
 refine sw 12 (.agg #[u0,u1]) rfl (rl 34 0 [u0,u1] L2) ?_
 refine sv 13 (.pointer (some ⟨b3,0,none⟩)) ?_
 replace L3:=L3.gr g9
 refine sw 14 (.agg #[v0,v1]) rfl (rl 34 0 [v0,v1] L3) ?_
 refine se ?_
 have ad:=g7.kp.trans g9.kp
 replace ha:=ha.kp ad
 replace hb:=hb.kp g9.kp
 refine ec 15 (add_e (k+m) ha.num hb.num (by omega) (by omega) (by omega)) ?_
 rintro e12 aq ⟨⟨aa,ac,rfl,ab⟩,ai⟩
 refine ⟨_,rfl,?_⟩
 replace hB:=hB.trans ai
 simp only [p3,p4]
 refine sv 16 (.agg #[aa,ac,.bool false,.slice none 0 0]) ?_
 refine se ?_
 replace L4:=L4.gr (g7.trans (g9.trans ai))
 refine es 36 0 (.agg #[aa,ac,.bool false,.slice none 0 0]) [aa,ac,.bool false,.slice none 0 0] #[aa,ac,.bool false,.slice none 0 0] L4 hB q4 ⟨ab.one0,ab.one1,rfl,rfl,trivial⟩ fun ap ak ae L4 hB=>?_
 refine za0 ?_
 refine ah _ _ ?_
 try clear ah aj
 refine wp_ret ?_
 simp only [Exit.then]
 refine bodyPost_ret (v:=(.agg #[aa,ac,.bool false,.slice none 0 0])) (zb0 _ _ _ rfl rfl L4 (by kernel_rfl)) rfl ⟨?_,hB⟩
 replace ab:=ab.kp ae
 exact ⟨_,_,_,_,rfl,by rw [← zF3 wa,← zF3 wb,← Rat.intCast_add];exact IsRat.int ab (by omega)⟩

set_option maxRecDepth 100000 in
set_option maxHeartbeats 1000000 in
theorem add_tf {k m:Nat} {u0 u1 u2 u3 v0 v1 v2 v3:Value} {a b:Rat} {w:World} (ha:IsRat w k u0 u1 u2 u3 a) (hb:IsRat w m v0 v1 v2 v3 b) (_hk:k+m≤100000) (wa:a.den=1) (wb:b.den≠1):
    Calls Tryz.prog 103 #[(.agg #[u0,u1,u2,u3]),(.agg #[v0,v1,v2,v3])] w fun e w'=>(∃ c0 c1 c2 c3,e=.returned (.agg #[c0,c1,c2,c3])∧IsRat w' (k+m+1) c0 c1 c2 c3 (a+b))∧Gr w w':=by
 have hka:=ha.big
 have hkb:=hb.big
 go_enter Tryz.func103,Tryz.ntmps103
 have hB:=Gr.refl w
 refine wp_seq_k (fun K1 k1=>?_)
 refine rg [0,1,2] ?_
 refine se ?_
 refine eb 36 #[u0,u1,u2,u3] 2 hB fun b2 w2 g2 L2 o2 q2 hB=>?_
 simp only [p3,p4]
 refine se ?_
 refine eb 36 #[v0,v1,v2,v3] 3 hB fun b3 w3 g3 L3 o3 q3 hB=>?_
 simp only [p3,p4]
 refine se ?_
 refine ea 36 #[.bool false,.slice none 0 0,.bool false,.slice none 0 0] 4 hB fun b4 w4 g4 L4 o4 q4 hB=>?_
 replace L2:=L2.gr g3
 have aq:=L2.ne o4
 have ap:=L3.ne o4
 simp only [p3,p4]
 refine za0 ?_
 refine k1 _ _ ?_
 try clear k1 K1
 refine wp_seq_k (fun K5 k5=>?_)
 refine wp_seq_k (fun K6 k6=>?_)
 refine rg [0,1,2,3,4,5] ?_
 replace L2:=L2.gr g4
 refine sw 5 (.agg #[u0,u1,u2,u3]) rfl (rl 36 0 [u0,u1,u2,u3] L2) ?_
 refine se ?_
 have aP:=g2.kp.trans (g3.kp.trans g4.kp)
 replace ha:=ha.kp aP
 refine ec 6 (zi2 ha (by omega) wa) ?_
 rintro e7 w7 ⟨rfl,g7⟩
 refine ⟨_,rfl,?_⟩
 replace hB:=hB.trans g7
 simp only [p3,p4]
 refine sv 7 (.bool true) ?_
 replace L3:=L3.gr (g4.trans g7)
 refine sw 8 (.agg #[v0,v1,v2,v3]) rfl (rl 36 0 [v0,v1,v2,v3] L3) ?_
 refine se ?_
 have az:=g2.kp.trans (g3.kp.trans (g4.kp.trans g7.kp))
 replace hb:=hb.kp az
 refine ec 9 (zo5 hb (by omega) wb) ?_
 rintro e9 w9 ⟨rfl,g9⟩
 refine ⟨_,rfl,?_⟩
 replace hB:=hB.trans g9
 simp only [p3,p4]
 refine sv 10 (.bool false) ?_
 refine za0 ?_
 refine k6 _ _ ?_
 try clear k6 K6
 refine wp_cond_false rfl ?_
 refine wp_skip ?_
 refine k5 _ _ ?_
 try clear k5 K5
 refine wp_seq_k (fun aR aK=>?_)
 have aa:=Gr.drew w9
 replace hB:=hB.trans aa
 replace L2:=L2.gr (g7.trans (g9.trans aa))
 replace L3:=L3.gr (g9.trans aa)
 refine za2 (fun w'=>Lc w' b2 #[u0,u1,u2,u3] 36∧Lc w' b3 #[v0,v1,v2,v3] 36) [(true,0),(true,1),(true,2),(true,5),(true,6),(true,7),(true,11),(true,13),(false,3),(false,4),(false,8),(false,9),(false,10),(false,12),(false,14),(false,15),(false,16),(false,17)] (by kernel_rfl) (by kernel_rfl) (by kernel_rfl) (by decide) (fun _ _ _ _ _ h=>h) ⟨L2,L3⟩ ?_
 refine ov 17 (.pointer (some ⟨b2,0,none⟩)) ?_
 refine ow 18 (.agg #[u0,u1]) rfl (fun w' hS=>(rl 34 0 [u0,u1] hS.1)) ?_
 refine ow 19 (.agg #[v0,v1,v2,v3]) rfl (fun w' hS=>(rl 36 0 [v0,v1,v2,v3] hS.2)) ?_
 refine ov 22 (.pointer (some ⟨b3,0,none⟩)) ?_
 refine ow 23 (.agg #[v0,v1]) rfl (fun w' hS=>(rl 34 0 [v0,v1] hS.2)) ?_
 refine ow 24 (.agg #[u0,u1,u2,u3]) rfl (fun w' hS=>(rl 36 0 [u0,u1,u2,u3] hS.1)) ?_
 refine ow 28 (.agg #[u0,u1,u2,u3]) rfl (fun w' hS=>(rl 36 0 [u0,u1,u2,u3] hS.1)) ?_
 refine ow 30 (.agg #[v0,v1,v2,v3]) rfl (fun w' hS=>(rl 36 0 [v0,v1,v2,v3] hS.2)) ?_
 refine oe ?_
 have aF:=g9.kp.trans aa.kp
 replace hb:=hb.kp aF
 refine ec 20 (zl5 hb) ?_
 rintro bi aV ⟨⟨bh,bc,rfl,aM⟩,ai⟩
 refine ⟨_,rfl,?_⟩
 replace hB:=hB.trans ai
 replace L2:=L2.gr ai
 replace L3:=L3.gr ai
 refine ⟨⟨L2,L3⟩,?_⟩
 simp only [p3,p4]
 refine oe ?_
 have aH:=g7.kp.trans (g9.kp.trans (aa.kp.trans ai.kp))
 replace ha:=ha.kp aH
 refine ec 21 (zm9 ha.num aM (by omega)) ?_
 rintro a2 a8 ⟨⟨bk,a4,rfl,aC⟩,af⟩
 refine ⟨_,rfl,?_⟩
 replace hB:=hB.trans af
 replace L2:=L2.gr af
 replace L3:=L3.gr af
 refine ⟨⟨L2,L3⟩,?_⟩
 simp only [p3,p4]
 refine oe ?_
 replace ha:=ha.kp af.kp
 refine ec 25 (zl5 ha) ?_
 rintro bf aS ⟨⟨bq,aX,rfl,aO⟩,ac⟩
 refine ⟨_,rfl,?_⟩
 replace hB:=hB.trans ac
 replace L2:=L2.gr ac
 replace L3:=L3.gr ac
 refine ⟨⟨L2,L3⟩,?_⟩
 simp only [p3,p4]
 refine oe ?_
 have aI:=ai.kp.trans (af.kp.trans ac.kp)
 replace hb:=hb.kp aI
 refine ec 26 (zm9 hb.num aO (by omega)) ?_
 rintro bg bd ⟨⟨bt,a3,rfl,aL⟩,ab⟩
 refine ⟨_,rfl,?_⟩
 replace hB:=hB.trans ab
 replace L2:=L2.gr ab
 replace L3:=L3.gr ab
 refine ⟨⟨L2,L3⟩,?_⟩
 simp only [p3,p4]
 refine oe ?_
 have ay:=ac.kp.trans ab.kp
 replace aC:=aC.kp ay
 refine ec 27 (add_e (k+m) aC aL (by omega) (by omega) (by omega)) ?_
 rintro a9 a5 ⟨⟨aU,aW,rfl,aA⟩,ae⟩
 refine ⟨_,rfl,?_⟩
 replace hB:=hB.trans ae
 replace L2:=L2.gr ae
 replace L3:=L3.gr ae
 refine ⟨⟨L2,L3⟩,?_⟩
 simp only [p3,p4]
 refine oe ?_
 have aD:=ac.kp.trans (ab.kp.trans ae.kp)
 replace ha:=ha.kp aD
 refine ec 29 (zl5 ha) ?_
 rintro aZ bb ⟨⟨bp,bn,rfl,aE⟩,ah⟩
 refine ⟨_,rfl,?_⟩
 replace hB:=hB.trans ah
 replace L2:=L2.gr ah
 replace L3:=L3.gr ah
 refine ⟨⟨L2,L3⟩,?_⟩
 simp only [p3,p4]
 refine oe ?_
 have aG:=ab.kp.trans (ae.kp.trans ah.kp)
 replace hb:=hb.kp aG
 refine ec 31 (zl5 hb) ?_
 rintro bm a0 ⟨⟨a1,ba,rfl,aQ⟩,aj⟩
 refine ⟨_,rfl,?_⟩
 replace hB:=hB.trans aj
 replace L2:=L2.gr aj
 replace L3:=L3.gr aj
 refine ⟨⟨L2,L3⟩,?_⟩
 simp only [p3,p4]
 refine oe ?_
 replace aE:=aE.kp aj.kp
 refine ec 32 (zm9 aE aQ (by omega)) ?_
 rintro aT bj ⟨⟨a6,a7,rfl,aN⟩,ak⟩
 refine ⟨_,rfl,?_⟩
 replace hB:=hB.trans ak
 replace L2:=L2.gr ak
 replace L3:=L3.gr ak
 refine ⟨⟨L2,L3⟩,?_⟩
 simp only [p3,p4]
 refine oe ?_
 have aJ:=ah.kp.trans (aj.kp.trans ak.kp)
 replace aA:=aA.kp aJ
 refine ec 33 (zo6 ((k+m+1)) aA aN (Int.mul_pos (Int.natCast_pos.2 a.den_pos) (Int.natCast_pos.2 b.den_pos)) (by omega) (by omega) (by omega) (by omega)) ?_
 rintro aY bu ⟨⟨ar,ax,au,av,rfl,ad⟩,aw⟩
 refine ⟨_,rfl,?_⟩
 replace hB:=hB.trans aw
 replace L2:=L2.gr aw
 replace L3:=L3.gr aw
 refine ⟨⟨L2,L3⟩,?_⟩
 simp only [p3,p4]
 refine oe ?_
 replace L4:=L4.gr (g7.trans (g9.trans (aa.trans (ai.trans (af.trans (ac.trans (ab.trans (ae.trans (ah.trans (aj.trans (ak.trans aw)))))))))))
 refine es 36 0 (.agg #[ar,ax,au,av]) [ar,ax,au,av] #[ar,ax,au,av] L4 hB q4 ⟨ad.one0,ad.one1,ad.one2,ad.one3,trivial⟩ fun bo al aB L4 hB=>?_
 replace L2:=al.lc L2 aq
 replace L3:=al.lc L3 ap
 refine ⟨⟨L2,L3⟩,?_⟩
 refine zb1 ?_
 refine aK _ _ ?_
 try clear aK aR
 refine wp_ret ?_
 refine bodyPost_ret (v:=(.agg #[ar,ax,au,av])) (zb0 _ _ _ rfl rfl L4 (by kernel_rfl)) rfl ⟨?_,hB⟩
 replace ad:=ad.kp aB
 exact ⟨_,_,_,_,rfl,by rw [← zN4];exact ad⟩

set_option maxRecDepth 100000 in
set_option maxHeartbeats 1000000 in
theorem add_f {k m:Nat} {u0 u1 u2 u3 v0 v1 v2 v3:Value} {a b:Rat} {w:World} (ha:IsRat w k u0 u1 u2 u3 a) (hb:IsRat w m v0 v1 v2 v3 b) (_hk:k+m≤100000) (wa:a.den≠1):
    Calls Tryz.prog 103 #[(.agg #[u0,u1,u2,u3]),(.agg #[v0,v1,v2,v3])] w fun e w'=>(∃ c0 c1 c2 c3,e=.returned (.agg #[c0,c1,c2,c3])∧IsRat w' (k+m+1) c0 c1 c2 c3 (a+b))∧Gr w w':=by
 have hka:=ha.big
 have hkb:=hb.big
 go_enter Tryz.func103,Tryz.ntmps103
 have hB:=Gr.refl w
 refine wp_seq_k (fun K1 k1=>?_)
 refine rg [0,1,2] ?_
 refine se ?_
 refine eb 36 #[u0,u1,u2,u3] 2 hB fun b2 w2 g2 L2 o2 q2 hB=>?_
 simp only [p3,p4]
 refine se ?_
 refine eb 36 #[v0,v1,v2,v3] 3 hB fun b3 w3 g3 L3 o3 q3 hB=>?_
 simp only [p3,p4]
 refine se ?_
 refine ea 36 #[.bool false,.slice none 0 0,.bool false,.slice none 0 0] 4 hB fun b4 w4 g4 L4 o4 q4 hB=>?_
 replace L2:=L2.gr g3
 have aq:=L2.ne o4
 have ap:=L3.ne o4
 simp only [p3,p4]
 refine za0 ?_
 refine k1 _ _ ?_
 try clear k1 K1
 refine wp_seq_k (fun K5 k5=>?_)
 refine wp_seq_k (fun K6 k6=>?_)
 refine rg [0,1,2,3,4,5] ?_
 replace L2:=L2.gr g4
 refine sw 5 (.agg #[u0,u1,u2,u3]) rfl (rl 36 0 [u0,u1,u2,u3] L2) ?_
 refine se ?_
 have aO:=g2.kp.trans (g3.kp.trans g4.kp)
 replace ha:=ha.kp aO
 refine ec 6 (zo5 ha (by omega) wa) ?_
 rintro e7 w7 ⟨rfl,g7⟩
 refine ⟨_,rfl,?_⟩
 replace hB:=hB.trans g7
 simp only [p3,p4]
 refine sv 7 (.bool false) ?_
 refine ss 8 ?_
 refine ss 9 ?_
 refine sv 10 (.bool false) ?_
 refine za0 ?_
 refine k6 _ _ ?_
 try clear k6 K6
 refine wp_cond_false rfl ?_
 refine wp_skip ?_
 refine k5 _ _ ?_
 try clear k5 K5
 refine wp_seq_k (fun K9 k9=>?_)
 have aa:=Gr.drew w7
 replace hB:=hB.trans aa
 replace L2:=L2.gr (g7.trans aa)
 replace L3:=L3.gr (g4.trans (g7.trans aa))
 refine za2 (fun w'=>Lc w' b2 #[u0,u1,u2,u3] 36∧Lc w' b3 #[v0,v1,v2,v3] 36) [(true,0),(true,1),(true,2),(true,5),(true,6),(true,7),(true,11),(true,13),(false,3),(false,4),(false,8),(false,9),(false,10),(false,12),(false,14),(false,15),(false,16),(false,17)] (by kernel_rfl) (by kernel_rfl) (by kernel_rfl) (by decide) (fun _ _ _ _ _ h=>h) ⟨L2,L3⟩ ?_
 refine ov 17 (.pointer (some ⟨b2,0,none⟩)) ?_
 refine ow 18 (.agg #[u0,u1]) rfl (fun w' hS=>(rl 34 0 [u0,u1] hS.1)) ?_
 refine ow 19 (.agg #[v0,v1,v2,v3]) rfl (fun w' hS=>(rl 36 0 [v0,v1,v2,v3] hS.2)) ?_
 refine ov 22 (.pointer (some ⟨b3,0,none⟩)) ?_
 refine ow 23 (.agg #[v0,v1]) rfl (fun w' hS=>(rl 34 0 [v0,v1] hS.2)) ?_
 refine ow 24 (.agg #[u0,u1,u2,u3]) rfl (fun w' hS=>(rl 36 0 [u0,u1,u2,u3] hS.1)) ?_
 refine ow 28 (.agg #[u0,u1,u2,u3]) rfl (fun w' hS=>(rl 36 0 [u0,u1,u2,u3] hS.1)) ?_
 refine ow 30 (.agg #[v0,v1,v2,v3]) rfl (fun w' hS=>(rl 36 0 [v0,v1,v2,v3] hS.2)) ?_
 refine oe ?_
 have aC:=g2.kp.trans (g3.kp.trans (g4.kp.trans (g7.kp.trans aa.kp)))
 replace hb:=hb.kp aC
 refine ec 20 (zl5 hb) ?_
 rintro a8 bi ⟨⟨a6,bp,rfl,aM⟩,ai⟩
 refine ⟨_,rfl,?_⟩
 replace hB:=hB.trans ai
 replace L2:=L2.gr ai
 replace L3:=L3.gr ai
 refine ⟨⟨L2,L3⟩,?_⟩
 simp only [p3,p4]
 refine oe ?_
 have aG:=g7.kp.trans (aa.kp.trans ai.kp)
 replace ha:=ha.kp aG
 refine ec 21 (zm9 ha.num aM (by omega)) ?_
 rintro bm aX ⟨⟨a1,a7,rfl,aA⟩,aj⟩
 refine ⟨_,rfl,?_⟩
 replace hB:=hB.trans aj
 replace L2:=L2.gr aj
 replace L3:=L3.gr aj
 refine ⟨⟨L2,L3⟩,?_⟩
 simp only [p3,p4]
 refine oe ?_
 replace ha:=ha.kp aj.kp
 refine ec 25 (zl5 ha) ?_
 rintro aY a9 ⟨⟨bd,a0,rfl,aJ⟩,ac⟩
 refine ⟨_,rfl,?_⟩
 replace hB:=hB.trans ac
 replace L2:=L2.gr ac
 replace L3:=L3.gr ac
 refine ⟨⟨L2,L3⟩,?_⟩
 simp only [p3,p4]
 refine oe ?_
 have aE:=ai.kp.trans (aj.kp.trans ac.kp)
 replace hb:=hb.kp aE
 refine ec 26 (zm9 hb.num aJ (by omega)) ?_
 rintro ba aQ ⟨⟨bn,aU,rfl,aL⟩,ab⟩
 refine ⟨_,rfl,?_⟩
 replace hB:=hB.trans ab
 replace L2:=L2.gr ab
 replace L3:=L3.gr ab
 refine ⟨⟨L2,L3⟩,?_⟩
 simp only [p3,p4]
 refine oe ?_
 have ay:=ac.kp.trans ab.kp
 replace aA:=aA.kp ay
 refine ec 27 (add_e (k+m) aA aL (by omega) (by omega) (by omega)) ?_
 rintro bo aZ ⟨⟨aV,aT,rfl,aD⟩,ae⟩
 refine ⟨_,rfl,?_⟩
 replace hB:=hB.trans ae
 replace L2:=L2.gr ae
 replace L3:=L3.gr ae
 refine ⟨⟨L2,L3⟩,?_⟩
 simp only [p3,p4]
 refine oe ?_
 have aB:=ac.kp.trans (ab.kp.trans ae.kp)
 replace ha:=ha.kp aB
 refine ec 29 (zl5 ha) ?_
 rintro bb bk ⟨⟨aP,aW,rfl,az⟩,ah⟩
 refine ⟨_,rfl,?_⟩
 replace hB:=hB.trans ah
 replace L2:=L2.gr ah
 replace L3:=L3.gr ah
 refine ⟨⟨L2,L3⟩,?_⟩
 simp only [p3,p4]
 refine oe ?_
 have aI:=ab.kp.trans (ae.kp.trans ah.kp)
 replace hb:=hb.kp aI
 refine ec 31 (zl5 hb) ?_
 rintro a5 a4 ⟨⟨a2,bf,rfl,aK⟩,af⟩
 refine ⟨_,rfl,?_⟩
 replace hB:=hB.trans af
 replace L2:=L2.gr af
 replace L3:=L3.gr af
 refine ⟨⟨L2,L3⟩,?_⟩
 simp only [p3,p4]
 refine oe ?_
 replace az:=az.kp af.kp
 refine ec 32 (zm9 az aK (by omega)) ?_
 rintro aS a3 ⟨⟨bc,bh,rfl,aN⟩,ak⟩
 refine ⟨_,rfl,?_⟩
 replace hB:=hB.trans ak
 replace L2:=L2.gr ak
 replace L3:=L3.gr ak
 refine ⟨⟨L2,L3⟩,?_⟩
 simp only [p3,p4]
 refine oe ?_
 have aH:=ah.kp.trans (af.kp.trans ak.kp)
 replace aD:=aD.kp aH
 refine ec 33 (zo6 ((k+m+1)) aD aN (Int.mul_pos (Int.natCast_pos.2 a.den_pos) (Int.natCast_pos.2 b.den_pos)) (by omega) (by omega) (by omega) (by omega)) ?_
 rintro aR bg ⟨⟨aw,av,au,ax,rfl,ad⟩,ar⟩
 refine ⟨_,rfl,?_⟩
 replace hB:=hB.trans ar
 replace L2:=L2.gr ar
 replace L3:=L3.gr ar
 refine ⟨⟨L2,L3⟩,?_⟩
 simp only [p3,p4]
 refine oe ?_
 replace L4:=L4.gr (g7.trans (aa.trans (ai.trans (aj.trans (ac.trans (ab.trans (ae.trans (ah.trans (af.trans (ak.trans ar))))))))))
 refine es 36 0 (.agg #[aw,av,au,ax]) [aw,av,au,ax] #[aw,av,au,ax] L4 hB q4 ⟨ad.one0,ad.one1,ad.one2,ad.one3,trivial⟩ fun bj al aF L4 hB=>?_
 replace L2:=al.lc L2 aq
 replace L3:=al.lc L3 ap
 refine ⟨⟨L2,L3⟩,?_⟩
 refine zb1 ?_
 refine k9 _ _ ?_
 try clear k9 K9
 refine wp_ret ?_
 refine bodyPost_ret (v:=(.agg #[aw,av,au,ax])) (zb0 _ _ _ rfl rfl L4 (by kernel_rfl)) rfl ⟨?_,hB⟩
 replace ad:=ad.kp aF
 exact ⟨_,_,_,_,rfl,by rw [← zN4];exact ad⟩

theorem zi7 {k m:Nat} {u0 u1 u2 u3 v0 v1 v2 v3:Value} {a b:Rat} {w:World} (ha:IsRat w k u0 u1 u2 u3 a) (hb:IsRat w m v0 v1 v2 v3 b) (hk:k+m≤100000):
  Calls Tryz.prog 103 #[.agg #[u0,u1,u2,u3],.agg #[v0,v1,v2,v3]] w fun e w'=>(∃ c0 c1 c2 c3,e=.returned (.agg #[c0,c1,c2,c3])∧IsRat w' (k+m+1) c0 c1 c2 c3 (a+b))∧Gr w w':=by
 by_cases wa:a.den=1
 ·by_cases wb:b.den=1
  ·exact add_tt ha hb hk wa wb
  ·exact add_tf ha hb hk wa wb
 ·exact add_f ha hb hk wa

set_option maxRecDepth 100000 in
set_option maxHeartbeats 1000000 in
theorem mul_tt {k m:Nat} {u0 u1 u2 u3 v0 v1 v2 v3:Value} {a b:Rat} {w:World} (ha:IsRat w k u0 u1 u2 u3 a) (hb:IsRat w m v0 v1 v2 v3 b) (_hk:k+m≤100000) (wa:a.den=1) (wb:b.den=1):
    Calls Tryz.prog 82 #[(.agg #[u0,u1,u2,u3]),(.agg #[v0,v1,v2,v3])] w fun e w'=>(∃ c0 c1 c2 c3,e=.returned (.agg #[c0,c1,c2,c3])∧IsRat w' (k+m) c0 c1 c2 c3 (a*b))∧Gr w w':=by
 have hka:=ha.big
 have hkb:=hb.big
 go_enter Tryz.func82,Tryz.ntmps82
 have hB:=Gr.refl w
 refine wp_seq_k (fun K1 k1=>?_)
 refine rg [0,1,2] ?_
 refine se ?_
 refine eb 36 #[u0,u1,u2,u3] 2 hB fun b2 w2 g2 L2 o2 q2 hB=>?_
 simp only [p3,p4]
 refine se ?_
 refine eb 36 #[v0,v1,v2,v3] 3 hB fun b3 w3 g3 L3 o3 q3 hB=>?_
 simp only [p3,p4]
 refine se ?_
 refine ea 36 #[.bool false,.slice none 0 0,.bool false,.slice none 0 0] 4 hB fun b4 w4 g4 L4 o4 q4 hB=>?_
 replace L2:=L2.gr g3
 simp only [p3,p4]
 refine za0 ?_
 refine k1 _ _ ?_
 try clear k1 K1
 refine wp_seq_k (fun K5 k5=>?_)
 refine wp_seq_k (fun K6 k6=>?_)
 refine rg [0,1,2,3,4,5] ?_
 replace L2:=L2.gr g4
 refine sw 5 (.agg #[u0,u1,u2,u3]) rfl (rl 36 0 [u0,u1,u2,u3] L2) ?_
 refine se ?_
 have al:=g2.kp.trans (g3.kp.trans g4.kp)
 replace ha:=ha.kp al
 refine ec 6 (zi2 ha (by omega) wa) ?_
 rintro e7 w7 ⟨rfl,g7⟩
 refine ⟨_,rfl,?_⟩
 replace hB:=hB.trans g7
 simp only [p3,p4]
 refine sv 7 (.bool true) ?_
 replace L3:=L3.gr (g4.trans g7)
 refine sw 8 (.agg #[v0,v1,v2,v3]) rfl (rl 36 0 [v0,v1,v2,v3] L3) ?_
 refine se ?_
 have af:=g2.kp.trans (g3.kp.trans (g4.kp.trans g7.kp))
 replace hb:=hb.kp af
 refine ec 9 (zi2 hb (by omega) wb) ?_
 rintro e9 w9 ⟨rfl,g9⟩
 refine ⟨_,rfl,?_⟩
 replace hB:=hB.trans g9
 simp only [p3,p4]
 refine sv 10 (.bool true) ?_
 refine za0 ?_
 refine k6 _ _ ?_
 try clear k6 K6
 refine wp_cond_true rfl ?_
 refine wp_seq_k (fun aj ah=>?_)
 refine rg [0,1,2,3,4,5,6] ?_
 refine sv 11 (.pointer (some ⟨b2,0,none⟩)) ?_
 replace L2:=L2.gr (g7.trans g9)
 refine sw 12 (.agg #[u0,u1]) rfl (rl 34 0 [u0,u1] L2) ?_
 refine sv 13 (.pointer (some ⟨b3,0,none⟩)) ?_
 replace L3:=L3.gr g9
 refine sw 14 (.agg #[v0,v1]) rfl (rl 34 0 [v0,v1] L3) ?_
 refine se ?_
 have ad:=g7.kp.trans g9.kp
 replace ha:=ha.kp ad
 replace hb:=hb.kp g9.kp
 refine ec 15 (zm9 ha.num hb.num (by omega)) ?_
 rintro e12 aq ⟨⟨aa,ac,rfl,ab⟩,ai⟩
 refine ⟨_,rfl,?_⟩
 replace hB:=hB.trans ai
 simp only [p3,p4]
 refine sv 16 (.agg #[aa,ac,.bool false,.slice none 0 0]) ?_
 refine se ?_
 replace L4:=L4.gr (g7.trans (g9.trans ai))
 refine es 36 0 (.agg #[aa,ac,.bool false,.slice none 0 0]) [aa,ac,.bool false,.slice none 0 0] #[aa,ac,.bool false,.slice none 0 0] L4 hB q4 ⟨ab.one0,ab.one1,rfl,rfl,trivial⟩ fun ap ak ae L4 hB=>?_
 refine za0 ?_
 refine ah _ _ ?_
 try clear ah aj
 refine wp_ret ?_
 simp only [Exit.then]
 refine bodyPost_ret (v:=(.agg #[aa,ac,.bool false,.slice none 0 0])) (zb0 _ _ _ rfl rfl L4 (by kernel_rfl)) rfl ⟨?_,hB⟩
 replace ab:=ab.kp ae
 exact ⟨_,_,_,_,rfl,by rw [← zF3 wa,← zF3 wb,← Rat.intCast_mul];exact IsRat.int ab (by omega)⟩

set_option maxRecDepth 100000 in
set_option maxHeartbeats 1000000 in
theorem mul_tf {k m:Nat} {u0 u1 u2 u3 v0 v1 v2 v3:Value} {a b:Rat} {w:World} (ha:IsRat w k u0 u1 u2 u3 a) (hb:IsRat w m v0 v1 v2 v3 b) (_hk:k+m≤100000) (wa:a.den=1) (wb:b.den≠1):
    Calls Tryz.prog 82 #[(.agg #[u0,u1,u2,u3]),(.agg #[v0,v1,v2,v3])] w fun e w'=>(∃ c0 c1 c2 c3,e=.returned (.agg #[c0,c1,c2,c3])∧IsRat w' (k+m) c0 c1 c2 c3 (a*b))∧Gr w w':=by
 have hka:=ha.big
 have hkb:=hb.big
 go_enter Tryz.func82,Tryz.ntmps82
 have hB:=Gr.refl w
 refine wp_seq_k (fun K1 k1=>?_)
 refine rg [0,1,2] ?_
 refine se ?_
 refine eb 36 #[u0,u1,u2,u3] 2 hB fun b2 w2 g2 L2 o2 q2 hB=>?_
 simp only [p3,p4]
 refine se ?_
 refine eb 36 #[v0,v1,v2,v3] 3 hB fun b3 w3 g3 L3 o3 q3 hB=>?_
 simp only [p3,p4]
 refine se ?_
 refine ea 36 #[.bool false,.slice none 0 0,.bool false,.slice none 0 0] 4 hB fun b4 w4 g4 L4 o4 q4 hB=>?_
 replace L2:=L2.gr g3
 have aj:=L2.ne o4
 have af:=L3.ne o4
 simp only [p3,p4]
 refine za0 ?_
 refine k1 _ _ ?_
 try clear k1 K1
 refine wp_seq_k (fun K5 k5=>?_)
 refine wp_seq_k (fun K6 k6=>?_)
 refine rg [0,1,2,3,4,5] ?_
 replace L2:=L2.gr g4
 refine sw 5 (.agg #[u0,u1,u2,u3]) rfl (rl 36 0 [u0,u1,u2,u3] L2) ?_
 refine se ?_
 have aE:=g2.kp.trans (g3.kp.trans g4.kp)
 replace ha:=ha.kp aE
 refine ec 6 (zi2 ha (by omega) wa) ?_
 rintro e7 w7 ⟨rfl,g7⟩
 refine ⟨_,rfl,?_⟩
 replace hB:=hB.trans g7
 simp only [p3,p4]
 refine sv 7 (.bool true) ?_
 replace L3:=L3.gr (g4.trans g7)
 refine sw 8 (.agg #[v0,v1,v2,v3]) rfl (rl 36 0 [v0,v1,v2,v3] L3) ?_
 refine se ?_
 have aw:=g2.kp.trans (g3.kp.trans (g4.kp.trans g7.kp))
 replace hb:=hb.kp aw
 refine ec 9 (zo5 hb (by omega) wb) ?_
 rintro e9 w9 ⟨rfl,g9⟩
 refine ⟨_,rfl,?_⟩
 replace hB:=hB.trans g9
 simp only [p3,p4]
 refine sv 10 (.bool false) ?_
 refine za0 ?_
 refine k6 _ _ ?_
 try clear k6 K6
 refine wp_cond_false rfl ?_
 refine wp_skip ?_
 refine k5 _ _ ?_
 try clear k5 K5
 refine wp_seq_k (fun aF aC=>?_)
 have aa:=Gr.drew w9
 replace hB:=hB.trans aa
 replace L2:=L2.gr (g7.trans (g9.trans aa))
 replace L3:=L3.gr (g9.trans aa)
 refine za2 (fun w'=>Lc w' b2 #[u0,u1,u2,u3] 36∧Lc w' b3 #[v0,v1,v2,v3] 36) [(true,0),(true,1),(true,2),(true,3),(true,5),(true,7),(false,4),(false,6),(false,8),(false,9),(false,10),(false,11)] (by kernel_rfl) (by kernel_rfl) (by kernel_rfl) (by decide) (fun _ _ _ _ _ h=>h) ⟨L2,L3⟩ ?_
 refine ov 17 (.pointer (some ⟨b2,0,none⟩)) ?_
 refine ow 18 (.agg #[u0,u1]) rfl (fun w' hS=>(rl 34 0 [u0,u1] hS.1)) ?_
 refine ov 19 (.pointer (some ⟨b3,0,none⟩)) ?_
 refine ow 20 (.agg #[v0,v1]) rfl (fun w' hS=>(rl 34 0 [v0,v1] hS.2)) ?_
 refine ow 22 (.agg #[u0,u1,u2,u3]) rfl (fun w' hS=>(rl 36 0 [u0,u1,u2,u3] hS.1)) ?_
 refine ow 24 (.agg #[v0,v1,v2,v3]) rfl (fun w' hS=>(rl 36 0 [v0,v1,v2,v3] hS.2)) ?_
 refine oe ?_
 have aA:=g7.kp.trans (g9.kp.trans aa.kp)
 replace ha:=ha.kp aA
 have ax:=g9.kp.trans aa.kp
 replace hb:=hb.kp ax
 refine ec 21 (zm9 ha.num hb.num (by omega)) ?_
 rintro e31 aP ⟨⟨aT,aL,rfl,az⟩,ad⟩
 refine ⟨_,rfl,?_⟩
 replace hB:=hB.trans ad
 replace L2:=L2.gr ad
 replace L3:=L3.gr ad
 refine ⟨⟨L2,L3⟩,?_⟩
 simp only [p3,p4]
 refine oe ?_
 replace ha:=ha.kp ad.kp
 refine ec 23 (zl5 ha) ?_
 rintro aM aI ⟨⟨aJ,aU,rfl,aB⟩,ac⟩
 refine ⟨_,rfl,?_⟩
 replace hB:=hB.trans ac
 replace L2:=L2.gr ac
 replace L3:=L3.gr ac
 refine ⟨⟨L2,L3⟩,?_⟩
 simp only [p3,p4]
 refine oe ?_
 have au:=ad.kp.trans ac.kp
 replace hb:=hb.kp au
 refine ec 25 (zl5 hb) ?_
 rintro aH aX ⟨⟨aN,aS,rfl,aG⟩,ae⟩
 refine ⟨_,rfl,?_⟩
 replace hB:=hB.trans ae
 replace L2:=L2.gr ae
 replace L3:=L3.gr ae
 refine ⟨⟨L2,L3⟩,?_⟩
 simp only [p3,p4]
 refine oe ?_
 replace aB:=aB.kp ae.kp
 refine ec 26 (zm9 aB aG (by omega)) ?_
 rintro aQ aW ⟨⟨aO,aY,rfl,aD⟩,ai⟩
 refine ⟨_,rfl,?_⟩
 replace hB:=hB.trans ai
 replace L2:=L2.gr ai
 replace L3:=L3.gr ai
 refine ⟨⟨L2,L3⟩,?_⟩
 simp only [p3,p4]
 refine oe ?_
 have ay:=ac.kp.trans (ae.kp.trans ai.kp)
 replace az:=az.kp ay
 refine ec 27 (zo6 ((k+m)) az aD (Int.mul_pos (Int.natCast_pos.2 a.den_pos) (Int.natCast_pos.2 b.den_pos)) (by omega) (by omega) (by omega) (by omega)) ?_
 rintro aV aK ⟨⟨aq,ak,ap,ar,rfl,ab⟩,al⟩
 refine ⟨_,rfl,?_⟩
 replace hB:=hB.trans al
 replace L2:=L2.gr al
 replace L3:=L3.gr al
 refine ⟨⟨L2,L3⟩,?_⟩
 simp only [p3,p4]
 refine oe ?_
 replace L4:=L4.gr (g7.trans (g9.trans (aa.trans (ad.trans (ac.trans (ae.trans (ai.trans al)))))))
 refine es 36 0 (.agg #[aq,ak,ap,ar]) [aq,ak,ap,ar] #[aq,ak,ap,ar] L4 hB q4 ⟨ab.one0,ab.one1,ab.one2,ab.one3,trivial⟩ fun aR ah av L4 hB=>?_
 replace L2:=ah.lc L2 aj
 replace L3:=ah.lc L3 af
 refine ⟨⟨L2,L3⟩,?_⟩
 refine zb1 ?_
 refine aC _ _ ?_
 try clear aC aF
 refine wp_ret ?_
 refine bodyPost_ret (v:=(.agg #[aq,ak,ap,ar])) (zb0 _ _ _ rfl rfl L4 (by kernel_rfl)) rfl ⟨?_,hB⟩
 replace ab:=ab.kp av
 exact ⟨_,_,_,_,rfl,by rw [← zN5];exact ab⟩

set_option maxRecDepth 100000 in
set_option maxHeartbeats 1000000 in
theorem mul_f {k m:Nat} {u0 u1 u2 u3 v0 v1 v2 v3:Value} {a b:Rat} {w:World} (ha:IsRat w k u0 u1 u2 u3 a) (hb:IsRat w m v0 v1 v2 v3 b) (_hk:k+m≤100000) (wa:a.den≠1):
    Calls Tryz.prog 82 #[(.agg #[u0,u1,u2,u3]),(.agg #[v0,v1,v2,v3])] w fun e w'=>(∃ c0 c1 c2 c3,e=.returned (.agg #[c0,c1,c2,c3])∧IsRat w' (k+m) c0 c1 c2 c3 (a*b))∧Gr w w':=by
 have hka:=ha.big
 have hkb:=hb.big
 go_enter Tryz.func82,Tryz.ntmps82
 have hB:=Gr.refl w
 refine wp_seq_k (fun K1 k1=>?_)
 refine rg [0,1,2] ?_
 refine se ?_
 refine eb 36 #[u0,u1,u2,u3] 2 hB fun b2 w2 g2 L2 o2 q2 hB=>?_
 simp only [p3,p4]
 refine se ?_
 refine eb 36 #[v0,v1,v2,v3] 3 hB fun b3 w3 g3 L3 o3 q3 hB=>?_
 simp only [p3,p4]
 refine se ?_
 refine ea 36 #[.bool false,.slice none 0 0,.bool false,.slice none 0 0] 4 hB fun b4 w4 g4 L4 o4 q4 hB=>?_
 replace L2:=L2.gr g3
 have aj:=L2.ne o4
 have ah:=L3.ne o4
 simp only [p3,p4]
 refine za0 ?_
 refine k1 _ _ ?_
 try clear k1 K1
 refine wp_seq_k (fun K5 k5=>?_)
 refine wp_seq_k (fun K6 k6=>?_)
 refine rg [0,1,2,3,4,5] ?_
 replace L2:=L2.gr g4
 refine sw 5 (.agg #[u0,u1,u2,u3]) rfl (rl 36 0 [u0,u1,u2,u3] L2) ?_
 refine se ?_
 have aC:=g2.kp.trans (g3.kp.trans g4.kp)
 replace ha:=ha.kp aC
 refine ec 6 (zo5 ha (by omega) wa) ?_
 rintro e7 w7 ⟨rfl,g7⟩
 refine ⟨_,rfl,?_⟩
 replace hB:=hB.trans g7
 simp only [p3,p4]
 refine sv 7 (.bool false) ?_
 refine ss 8 ?_
 refine ss 9 ?_
 refine sv 10 (.bool false) ?_
 refine za0 ?_
 refine k6 _ _ ?_
 try clear k6 K6
 refine wp_cond_false rfl ?_
 refine wp_skip ?_
 refine k5 _ _ ?_
 try clear k5 K5
 refine wp_seq_k (fun K9 k9=>?_)
 have aa:=Gr.drew w7
 replace hB:=hB.trans aa
 replace L2:=L2.gr (g7.trans aa)
 replace L3:=L3.gr (g4.trans (g7.trans aa))
 refine za2 (fun w'=>Lc w' b2 #[u0,u1,u2,u3] 36∧Lc w' b3 #[v0,v1,v2,v3] 36) [(true,0),(true,1),(true,2),(true,3),(true,5),(true,7),(false,4),(false,6),(false,8),(false,9),(false,10),(false,11)] (by kernel_rfl) (by kernel_rfl) (by kernel_rfl) (by decide) (fun _ _ _ _ _ h=>h) ⟨L2,L3⟩ ?_
 refine ov 17 (.pointer (some ⟨b2,0,none⟩)) ?_
 refine ow 18 (.agg #[u0,u1]) rfl (fun w' hS=>(rl 34 0 [u0,u1] hS.1)) ?_
 refine ov 19 (.pointer (some ⟨b3,0,none⟩)) ?_
 refine ow 20 (.agg #[v0,v1]) rfl (fun w' hS=>(rl 34 0 [v0,v1] hS.2)) ?_
 refine ow 22 (.agg #[u0,u1,u2,u3]) rfl (fun w' hS=>(rl 36 0 [u0,u1,u2,u3] hS.1)) ?_
 refine ow 24 (.agg #[v0,v1,v2,v3]) rfl (fun w' hS=>(rl 36 0 [v0,v1,v2,v3] hS.2)) ?_
 refine oe ?_
 have az:=g7.kp.trans aa.kp
 replace ha:=ha.kp az
 have ax:=g2.kp.trans (g3.kp.trans (g4.kp.trans (g7.kp.trans aa.kp)))
 replace hb:=hb.kp ax
 refine ec 21 (zm9 ha.num hb.num (by omega)) ?_
 rintro aE aP ⟨⟨aK,aV,rfl,av⟩,ae⟩
 refine ⟨_,rfl,?_⟩
 replace hB:=hB.trans ae
 replace L2:=L2.gr ae
 replace L3:=L3.gr ae
 refine ⟨⟨L2,L3⟩,?_⟩
 simp only [p3,p4]
 refine oe ?_
 replace ha:=ha.kp ae.kp
 refine ec 23 (zl5 ha) ?_
 rintro e33 aH ⟨⟨aR,aI,rfl,aw⟩,ad⟩
 refine ⟨_,rfl,?_⟩
 replace hB:=hB.trans ad
 replace L2:=L2.gr ad
 replace L3:=L3.gr ad
 refine ⟨⟨L2,L3⟩,?_⟩
 simp only [p3,p4]
 refine oe ?_
 have au:=ae.kp.trans ad.kp
 replace hb:=hb.kp au
 refine ec 25 (zl5 hb) ?_
 rintro aM aF ⟨⟨aG,aQ,rfl,aD⟩,ac⟩
 refine ⟨_,rfl,?_⟩
 replace hB:=hB.trans ac
 replace L2:=L2.gr ac
 replace L3:=L3.gr ac
 refine ⟨⟨L2,L3⟩,?_⟩
 simp only [p3,p4]
 refine oe ?_
 replace aw:=aw.kp ac.kp
 refine ec 26 (zm9 aw aD (by omega)) ?_
 rintro aU aT ⟨⟨aL,aO,rfl,aB⟩,ai⟩
 refine ⟨_,rfl,?_⟩
 replace hB:=hB.trans ai
 replace L2:=L2.gr ai
 replace L3:=L3.gr ai
 refine ⟨⟨L2,L3⟩,?_⟩
 simp only [p3,p4]
 refine oe ?_
 have ay:=ad.kp.trans (ac.kp.trans ai.kp)
 replace av:=av.kp ay
 refine ec 27 (zo6 ((k+m)) av aB (Int.mul_pos (Int.natCast_pos.2 a.den_pos) (Int.natCast_pos.2 b.den_pos)) (by omega) (by omega) (by omega) (by omega)) ?_
 rintro aN aS ⟨⟨al,ap,ak,ar,rfl,ab⟩,aq⟩
 refine ⟨_,rfl,?_⟩
 replace hB:=hB.trans aq
 replace L2:=L2.gr aq
 replace L3:=L3.gr aq
 refine ⟨⟨L2,L3⟩,?_⟩
 simp only [p3,p4]
 refine oe ?_
 replace L4:=L4.gr (g7.trans (aa.trans (ae.trans (ad.trans (ac.trans (ai.trans aq))))))
 refine es 36 0 (.agg #[al,ap,ak,ar]) [al,ap,ak,ar] #[al,ap,ak,ar] L4 hB q4 ⟨ab.one0,ab.one1,ab.one2,ab.one3,trivial⟩ fun aJ af aA L4 hB=>?_
 replace L2:=af.lc L2 aj
 replace L3:=af.lc L3 ah
 refine ⟨⟨L2,L3⟩,?_⟩
 refine zb1 ?_
 refine k9 _ _ ?_
 try clear k9 K9
 refine wp_ret ?_
 refine bodyPost_ret (v:=(.agg #[al,ap,ak,ar])) (zb0 _ _ _ rfl rfl L4 (by kernel_rfl)) rfl ⟨?_,hB⟩
 replace ab:=ab.kp aA
 exact ⟨_,_,_,_,rfl,by rw [← zN5];exact ab⟩

theorem ym7 {k m:Nat} {u0 u1 u2 u3 v0 v1 v2 v3:Value} {a b:Rat} {w:World} (ha:IsRat w k u0 u1 u2 u3 a) (hb:IsRat w m v0 v1 v2 v3 b) (hk:k+m≤100000):
  Calls Tryz.prog 82 #[.agg #[u0,u1,u2,u3],.agg #[v0,v1,v2,v3]] w fun e w'=>(∃ c0 c1 c2 c3,e=.returned (.agg #[c0,c1,c2,c3])∧IsRat w' (k+m) c0 c1 c2 c3 (a*b))∧Gr w w':=by
 by_cases wa:a.den=1
 ·by_cases wb:b.den=1
  ·exact mul_tt ha hb hk wa wb
  ·exact mul_tf ha hb hk wa wb
 ·exact mul_f ha hb hk wa

set_option maxRecDepth 100000 in
set_option maxHeartbeats 1000000 in
theorem neg_r {k:Nat} {u0 u1 u2 u3:Value} {a:Rat} {w:World} (ha:IsRat w k u0 u1 u2 u3 a):
    Calls Tryz.prog 108 #[(.agg #[u0,u1,u2,u3])] w fun e w'=>(∃ c0 c1 c2 c3,e=.returned (.agg #[c0,c1,c2,c3])∧IsRat w' k c0 c1 c2 c3 (-a))∧Gr w w':=by
 go_enter Tryz.func108,Tryz.ntmps108
 have hB:=Gr.refl w
 refine wp_seq_k (fun K1 k1=>?_)
 refine rg [0,1] ?_
 refine se ?_
 refine eb 36 #[u0,u1,u2,u3] 1 hB fun b2 w2 g2 L2 o2 q2 hB=>?_
 simp only [p3,p4]
 refine se ?_
 refine ea 36 #[.bool false,.slice none 0 0,.bool false,.slice none 0 0] 2 hB fun b3 w3 g3 L3 o3 q3 hB=>?_
 have ad:=L2.ne o3
 simp only [p3,p4]
 refine za0 ?_
 refine k1 _ _ ?_
 try clear k1 K1
 refine wp_seq_k (fun K4 k4=>?_)
 have aa:=Gr.drew w3
 replace hB:=hB.trans aa
 replace L2:=L2.gr (g3.trans aa)
 refine za2 (fun w'=>Lc w' b2 #[u0,u1,u2,u3] 36) [(true,0),(true,1),(true,3),(true,4),(false,2),(true,5),(false,6)] (by kernel_rfl) (by kernel_rfl) (by kernel_rfl) (by decide) (fun _ _ _ _ _ h=>h) L2 ?_
 refine ov 3 (.pointer (some ⟨b2,0,none⟩)) ?_
 refine ow 4 (.agg #[u0,u1]) rfl (fun w' hS=>(rl 34 0 [u0,u1] hS)) ?_
 refine ov 6 (.pointer (some ⟨b2,2,none⟩)) ?_
 refine ow 7 (.agg #[u2,u3]) rfl (fun w' hS=>(rl 34 2 [u2,u3] hS)) ?_
 refine oe ?_
 have ak:=g2.kp.trans (g3.kp.trans aa.kp)
 replace ha:=ha.kp ak
 refine ec 5 (yf9 ha.num) ?_
 rintro e13 ap ⟨⟨ac,ae,rfl,af⟩,ah⟩
 refine ⟨_,rfl,?_⟩
 replace hB:=hB.trans ah
 replace L2:=L2.gr ah
 refine ⟨L2,?_⟩
 simp only [p3,p4]
 refine ov 8 (.agg #[ac,ae,u2,u3]) ?_
 refine oe ?_
 replace L3:=L3.gr (aa.trans ah)
 refine es 36 0 (.agg #[ac,ae,u2,u3]) [ac,ae,u2,u3] #[ac,ae,u2,u3] L3 hB q3 ⟨af.one0,af.one1,ha.one2,ha.one3,trivial⟩ fun al ai ab L3 hB=>?_
 replace L2:=ai.lc L2 ad
 refine ⟨L2,?_⟩
 refine zb1 ?_
 refine k4 _ _ ?_
 try clear k4 K4
 refine wp_ret ?_
 refine bodyPost_ret (v:=(.agg #[ac,ae,u2,u3])) (zb0 _ _ _ rfl rfl L3 (by kernel_rfl)) rfl ⟨?_,hB⟩
 have aj:=ah.kp.trans ab
 replace ha:=ha.kp aj
 replace af:=af.kp ab
 exact ⟨_,_,_,_,rfl,IsRat.neg ha af⟩

set_option maxRecDepth 100000 in
set_option maxHeartbeats 1000000 in
theorem zt2 {k m:Nat} {u0 u1 u2 u3 v0 v1 v2 v3:Value} {a b:Rat} {w:World} (ha:IsRat w k u0 u1 u2 u3 a) (hb:IsRat w m v0 v1 v2 v3 b) (_hk:k+m≤100000):
    Calls Tryz.prog 75 #[(.agg #[u0,u1,u2,u3]),(.agg #[v0,v1,v2,v3])] w fun e w'=>(∃ c0 c1 c2 c3,e=.returned (.agg #[c0,c1,c2,c3])∧IsRat w' (k+m+1) c0 c1 c2 c3 (a - b))∧Gr w w':=by
 go_enter Tryz.func75,Tryz.ntmps75
 have hB:=Gr.refl w
 refine wp_seq_k (fun K1 k1=>?_)
 refine rg [0,1,2] ?_
 refine se ?_
 refine eb 36 #[u0,u1,u2,u3] 2 hB fun b2 w2 g2 L2 o2 q2 hB=>?_
 simp only [p3,p4]
 refine se ?_
 refine eb 36 #[v0,v1,v2,v3] 3 hB fun b3 w3 g3 L3 o3 q3 hB=>?_
 simp only [p3,p4]
 refine se ?_
 refine ea 36 #[.bool false,.slice none 0 0,.bool false,.slice none 0 0] 4 hB fun b4 w4 g4 L4 o4 q4 hB=>?_
 replace L2:=L2.gr g3
 have ac:=L2.ne o4
 have af:=L3.ne o4
 simp only [p3,p4]
 refine za0 ?_
 refine k1 _ _ ?_
 try clear k1 K1
 refine wp_seq_k (fun K5 k5=>?_)
 have aa:=Gr.drew w4
 replace hB:=hB.trans aa
 replace L2:=L2.gr (g4.trans aa)
 replace L3:=L3.gr (g4.trans aa)
 refine za2 (fun w'=>Lc w' b2 #[u0,u1,u2,u3] 36∧Lc w' b3 #[v0,v1,v2,v3] 36) [(true,0),(true,1),(false,2),(false,3),(false,4)] (by kernel_rfl) (by kernel_rfl) (by kernel_rfl) (by decide) (fun _ _ _ _ _ h=>h) ⟨L2,L3⟩ ?_
 refine ow 5 (.agg #[u0,u1,u2,u3]) rfl (fun w' hS=>(rl 36 0 [u0,u1,u2,u3] hS.1)) ?_
 refine ow 6 (.agg #[v0,v1,v2,v3]) rfl (fun w' hS=>(rl 36 0 [v0,v1,v2,v3] hS.2)) ?_
 refine oe ?_
 have ar:=g2.kp.trans (g3.kp.trans (g4.kp.trans aa.kp))
 replace hb:=hb.kp ar
 refine ec 7 (neg_r hb) ?_
 rintro aw ax ⟨⟨aA,aC,az,aB,rfl,au⟩,ae⟩
 refine ⟨_,rfl,?_⟩
 replace hB:=hB.trans ae
 replace L2:=L2.gr ae
 replace L3:=L3.gr ae
 refine ⟨⟨L2,L3⟩,?_⟩
 simp only [p3,p4]
 refine oe ?_
 have ap:=g2.kp.trans (g3.kp.trans (g4.kp.trans (aa.kp.trans ae.kp)))
 replace ha:=ha.kp ap
 refine ec 8 (zi7 ha au (by omega)) ?_
 rintro ay av ⟨⟨aj,ak,al,ai,rfl,ab⟩,ah⟩
 refine ⟨_,rfl,?_⟩
 replace hB:=hB.trans ah
 replace L2:=L2.gr ah
 replace L3:=L3.gr ah
 refine ⟨⟨L2,L3⟩,?_⟩
 simp only [p3,p4]
 refine oe ?_
 replace L4:=L4.gr (aa.trans (ae.trans ah))
 refine es 36 0 (.agg #[aj,ak,al,ai]) [aj,ak,al,ai] #[aj,ak,al,ai] L4 hB q4 ⟨ab.one0,ab.one1,ab.one2,ab.one3,trivial⟩ fun aD ad aq L4 hB=>?_
 replace L2:=ad.lc L2 ac
 replace L3:=ad.lc L3 af
 refine ⟨⟨L2,L3⟩,?_⟩
 refine zb1 ?_
 refine k5 _ _ ?_
 try clear k5 K5
 refine wp_ret ?_
 refine bodyPost_ret (v:=(.agg #[aj,ak,al,ai])) (zb0 _ _ _ rfl rfl L4 (by kernel_rfl)) rfl ⟨?_,hB⟩
 replace ab:=ab.kp aq
 exact ⟨_,_,_,_,rfl,by rw [Rat.sub_eq_add_neg];exact ab⟩

set_option maxRecDepth 100000 in
set_option maxHeartbeats 1000000 in
theorem num_r {k:Nat} {u0 u1 u2 u3:Value} {a:Rat} {w:World} (ha:IsRat w k u0 u1 u2 u3 a):
    Calls Tryz.prog 130 #[(.agg #[u0,u1,u2,u3])] w fun e w'=>(∃ x' y',e=.returned (.agg #[x',y'])∧IsInt w' k x' y' (a.num))∧Gr w w':=by
 go_enter Tryz.func130,Tryz.ntmps130
 have hB:=Gr.refl w
 refine wp_seq_k (fun K1 k1=>?_)
 refine rg [0,1] ?_
 refine se ?_
 refine eb 36 #[u0,u1,u2,u3] 1 hB fun b2 w2 g2 L2 o2 q2 hB=>?_
 simp only [p3,p4]
 refine se ?_
 refine ea 34 #[.bool false,.slice none 0 0] 2 hB fun b3 w3 g3 L3 o3 q3 hB=>?_
 simp only [p3,p4]
 refine za0 ?_
 refine k1 _ _ ?_
 try clear k1 K1
 refine wp_seq_k (fun K4 k4=>?_)
 refine rg [0,1,2] ?_
 refine sv 3 (.pointer (some ⟨b2,0,none⟩)) ?_
 replace L2:=L2.gr g3
 refine sw 4 (.agg #[u0,u1]) rfl (rl 34 0 [u0,u1] L2) ?_
 refine se ?_
 refine es 34 0 (.agg #[u0,u1]) [u0,u1] #[u0,u1] L3 hB q3 ⟨ha.one0,ha.one1,trivial⟩ fun w5 ac aa L3 hB=>?_
 refine za0 ?_
 refine k4 _ _ ?_
 try clear k4 K4
 refine wp_ret ?_
 refine bodyPost_ret (v:=(.agg #[u0,u1])) (zb0 _ _ _ rfl rfl L3 (by kernel_rfl)) rfl ⟨?_,hB⟩
 have ab:=g2.kp.trans (g3.kp.trans aa)
 replace ha:=ha.kp ab
 exact ⟨_,_,rfl,ha.num⟩

set_option maxRecDepth 100000 in
set_option maxHeartbeats 1000000 in
theorem zJ0 {k:Nat} {u0 u1 u2 u3:Value} {a:Rat} {w:World} (ha:IsRat w k u0 u1 u2 u3 a):
    Calls Tryz.prog 76 #[(.agg #[u0,u1,u2,u3])] w fun e w'=>e=.returned (.int .i64 (sgn a.num))∧Gr w w':=by
 go_enter Tryz.func76,Tryz.ntmps76
 have hB:=Gr.refl w
 refine wp_seq_k (fun K1 k1=>?_)
 refine rg [0,1] ?_
 refine se ?_
 refine eb 36 #[u0,u1,u2,u3] 1 hB fun b2 w2 g2 L2 o2 q2 hB=>?_
 simp only [p3,p4]
 refine sv 2 (.int .i64 0) ?_
 refine za0 ?_
 refine k1 _ _ ?_
 try clear k1 K1
 refine wp_seq_k (fun K3 k3=>?_)
 refine rg [0,1,2,3] ?_
 refine sv 3 (.pointer (some ⟨b2,0,none⟩)) ?_
 refine sw 4 (.agg #[u0,u1]) rfl (rl 34 0 [u0,u1] L2) ?_
 refine se ?_
 replace ha:=ha.kp g2.kp
 refine ec 5 (yb0 ha.num) ?_
 rintro e4 w4 ⟨rfl,g4⟩
 refine ⟨_,rfl,?_⟩
 replace hB:=hB.trans g4
 simp only [p3,p4]
 refine sv 2 (.int .i64 (sgn (a.num))) ?_
 refine za0 ?_
 refine k3 _ _ ?_
 try clear k3 K3
 refine wp_ret ?_
 refine bodyPost_ret (v:=(.int .i64 (sgn (a.num)))) (za7 rfl rfl) rfl ⟨?_,hB⟩
 exact rfl

set_option maxRecDepth 100000 in
set_option maxHeartbeats 1000000 in
theorem zQ2 (z:Int) (_h0:-9223372036854775808≤z) (_h1:z≤9223372036854775807) (w:World):
    Calls Tryz.prog 59 #[(.int .i64 (z))] w fun e w'=>(∃ c0 c1 c2 c3,e=.returned (.agg #[c0,c1,c2,c3])∧IsRat w' 64 c0 c1 c2 c3 ((z:Rat)))∧Gr w w':=by
 go_enter Tryz.func59,Tryz.ntmps59
 have hB:=Gr.refl w
 refine wp_seq_k (fun K1 k1=>?_)
 refine rg [0] ?_
 refine se ?_
 refine ea 36 #[.bool false,.slice none 0 0,.bool false,.slice none 0 0] 2 hB fun b2 w2 g2 L2 o2 q2 hB=>?_
 simp only [p3,p4]
 refine za0 ?_
 refine k1 _ _ ?_
 try clear k1 K1
 refine wp_seq_k (fun K3 k3=>?_)
 refine rg [0,1,2,3] ?_
 refine sv 3 (.int .i64 (z)) ?_
 refine se ?_
 refine ec 4 (yb1 (z) (by omega) (by omega) _) ?_
 rintro e4 w4 ⟨⟨x4,y4,rfl,h4⟩,g4⟩
 refine ⟨_,rfl,?_⟩
 replace hB:=hB.trans g4
 simp only [p3,p4]
 refine sv 5 (.agg #[x4,y4,.bool false,.slice none 0 0]) ?_
 refine se ?_
 replace L2:=L2.gr g4
 refine es 36 0 (.agg #[x4,y4,.bool false,.slice none 0 0]) [x4,y4,.bool false,.slice none 0 0] #[x4,y4,.bool false,.slice none 0 0] L2 hB q2 ⟨h4.one0,h4.one1,rfl,rfl,trivial⟩ fun w5 ab aa L2 hB=>?_
 refine za0 ?_
 refine k3 _ _ ?_
 try clear k3 K3
 refine wp_ret ?_
 refine bodyPost_ret (v:=(.agg #[x4,y4,.bool false,.slice none 0 0])) (zb0 _ _ _ rfl rfl L2 (by kernel_rfl)) rfl ⟨?_,hB⟩
 replace h4:=h4.kp aa
 exact ⟨_,_,_,_,rfl,IsRat.int h4 (by omega)⟩

set_option maxRecDepth 100000 in
set_option maxHeartbeats 1000000 in
theorem rcomp_tt {k m:Nat} {u0 u1 u2 u3 v0 v1 v2 v3:Value} {a b:Rat} {w:World} (ha:IsRat w k u0 u1 u2 u3 a) (hb:IsRat w m v0 v1 v2 v3 b) (_hk:k+m≤100000) (wa:a.den=1) (wb:b.den=1):
    Calls Tryz.prog 37 #[(.agg #[u0,u1,u2,u3]),(.agg #[v0,v1,v2,v3])] w fun e w'=>e=.returned (.int .i64 (yh3 a b))∧Gr w w':=by
 have hka:=ha.big
 have hkb:=hb.big
 go_enter Tryz.func37,Tryz.ntmps37
 have hB:=Gr.refl w
 refine wp_seq_k (fun K1 k1=>?_)
 refine rg [0,1,2] ?_
 refine se ?_
 refine eb 36 #[u0,u1,u2,u3] 2 hB fun b2 w2 g2 L2 o2 q2 hB=>?_
 simp only [p3,p4]
 refine se ?_
 refine eb 36 #[v0,v1,v2,v3] 3 hB fun b3 w3 g3 L3 o3 q3 hB=>?_
 simp only [p3,p4]
 refine sv 4 (.int .i64 0) ?_
 refine za0 ?_
 refine k1 _ _ ?_
 try clear k1 K1
 refine wp_seq_k (fun K4 k4=>?_)
 refine wp_seq_k (fun K5 k5=>?_)
 refine rg [0,1,2,3,4,5] ?_
 replace L2:=L2.gr g3
 refine sw 5 (.agg #[u0,u1,u2,u3]) rfl (rl 36 0 [u0,u1,u2,u3] L2) ?_
 refine se ?_
 have af:=g2.kp.trans g3.kp
 replace ha:=ha.kp af
 refine ec 6 (zi2 ha (by omega) wa) ?_
 rintro e6 w6 ⟨rfl,g6⟩
 refine ⟨_,rfl,?_⟩
 replace hB:=hB.trans g6
 simp only [p3,p4]
 refine sv 7 (.bool true) ?_
 replace L3:=L3.gr g6
 refine sw 8 (.agg #[v0,v1,v2,v3]) rfl (rl 36 0 [v0,v1,v2,v3] L3) ?_
 refine se ?_
 have ae:=g2.kp.trans (g3.kp.trans g6.kp)
 replace hb:=hb.kp ae
 refine ec 9 (zi2 hb (by omega) wb) ?_
 rintro e8 w8 ⟨rfl,g8⟩
 refine ⟨_,rfl,?_⟩
 replace hB:=hB.trans g8
 simp only [p3,p4]
 refine sv 10 (.bool true) ?_
 refine za0 ?_
 refine k5 _ _ ?_
 try clear k5 K5
 refine wp_cond_true rfl ?_
 refine wp_seq_k (fun ac ab=>?_)
 refine rg [0,1,2,3,4,5] ?_
 refine sv 11 (.pointer (some ⟨b2,0,none⟩)) ?_
 replace L2:=L2.gr (g6.trans g8)
 refine sw 12 (.agg #[u0,u1]) rfl (rl 34 0 [u0,u1] L2) ?_
 refine sv 13 (.pointer (some ⟨b3,0,none⟩)) ?_
 replace L3:=L3.gr g8
 refine sw 14 (.agg #[v0,v1]) rfl (rl 34 0 [v0,v1] L3) ?_
 refine se ?_
 have aa:=g6.kp.trans g8.kp
 replace ha:=ha.kp aa
 replace hb:=hb.kp g8.kp
 refine ec 15 (zf2 ha.num hb.num (by omega) (by omega)) ?_
 rintro e11 ah ⟨rfl,ad⟩
 refine ⟨_,rfl,?_⟩
 replace hB:=hB.trans ad
 simp only [p3,p4]
 refine sv 4 (.int .i64 (sgn (a.num - b.num))) ?_
 refine za0 ?_
 refine ab _ _ ?_
 try clear ab ac
 refine wp_ret ?_
 simp only [Exit.then]
 refine bodyPost_ret (v:=(.int .i64 (sgn (a.num - b.num)))) (za7 rfl rfl) rfl ⟨?_,hB⟩
 exact by rw [rcmp_int wa wb]

set_option maxRecDepth 100000 in
set_option maxHeartbeats 1000000 in
theorem rcomp_tf {k m:Nat} {u0 u1 u2 u3 v0 v1 v2 v3:Value} {a b:Rat} {w:World} (ha:IsRat w k u0 u1 u2 u3 a) (hb:IsRat w m v0 v1 v2 v3 b) (_hk:k+m≤100000) (wa:a.den=1) (wb:b.den≠1):
    Calls Tryz.prog 37 #[(.agg #[u0,u1,u2,u3]),(.agg #[v0,v1,v2,v3])] w fun e w'=>e=.returned (.int .i64 (yh3 a b))∧Gr w w':=by
 have hka:=ha.big
 have hkb:=hb.big
 go_enter Tryz.func37,Tryz.ntmps37
 have hB:=Gr.refl w
 refine wp_seq_k (fun K1 k1=>?_)
 refine rg [0,1,2] ?_
 refine se ?_
 refine eb 36 #[u0,u1,u2,u3] 2 hB fun b2 w2 g2 L2 o2 q2 hB=>?_
 simp only [p3,p4]
 refine se ?_
 refine eb 36 #[v0,v1,v2,v3] 3 hB fun b3 w3 g3 L3 o3 q3 hB=>?_
 simp only [p3,p4]
 refine sv 4 (.int .i64 0) ?_
 refine za0 ?_
 refine k1 _ _ ?_
 try clear k1 K1
 refine wp_seq_k (fun K4 k4=>?_)
 refine wp_seq_k (fun K5 k5=>?_)
 refine rg [0,1,2,3,4,5] ?_
 replace L2:=L2.gr g3
 refine sw 5 (.agg #[u0,u1,u2,u3]) rfl (rl 36 0 [u0,u1,u2,u3] L2) ?_
 refine se ?_
 have ax:=g2.kp.trans g3.kp
 replace ha:=ha.kp ax
 refine ec 6 (zi2 ha (by omega) wa) ?_
 rintro e6 w6 ⟨rfl,g6⟩
 refine ⟨_,rfl,?_⟩
 replace hB:=hB.trans g6
 simp only [p3,p4]
 refine sv 7 (.bool true) ?_
 replace L3:=L3.gr g6
 refine sw 8 (.agg #[v0,v1,v2,v3]) rfl (rl 36 0 [v0,v1,v2,v3] L3) ?_
 refine se ?_
 have aw:=g2.kp.trans (g3.kp.trans g6.kp)
 replace hb:=hb.kp aw
 refine ec 9 (zo5 hb (by omega) wb) ?_
 rintro e8 w8 ⟨rfl,g8⟩
 refine ⟨_,rfl,?_⟩
 replace hB:=hB.trans g8
 simp only [p3,p4]
 refine sv 10 (.bool false) ?_
 refine za0 ?_
 refine k5 _ _ ?_
 try clear k5 K5
 refine wp_cond_false rfl ?_
 refine wp_skip ?_
 refine k4 _ _ ?_
 try clear k4 K4
 refine wp_seq_k (fun ar ap=>?_)
 have aa:=Gr.drew w8
 replace hB:=hB.trans aa
 replace L2:=L2.gr (g6.trans (g8.trans aa))
 replace L3:=L3.gr (g8.trans aa)
 refine za2 (fun w'=>Lc w' b2 #[u0,u1,u2,u3] 36∧Lc w' b3 #[v0,v1,v2,v3] 36) [(true,0),(true,1),(true,2),(true,5),(true,6),(true,7),(false,3),(false,4),(false,8),(false,9),(false,10),(true,11)] (by kernel_rfl) (by kernel_rfl) (by kernel_rfl) (by decide) (fun _ _ _ _ _ h=>h) ⟨L2,L3⟩ ?_
 refine ov 16 (.pointer (some ⟨b2,0,none⟩)) ?_
 refine ow 17 (.agg #[u0,u1]) rfl (fun w' hS=>(rl 34 0 [u0,u1] hS.1)) ?_
 refine ow 18 (.agg #[v0,v1,v2,v3]) rfl (fun w' hS=>(rl 36 0 [v0,v1,v2,v3] hS.2)) ?_
 refine ov 21 (.pointer (some ⟨b3,0,none⟩)) ?_
 refine ow 22 (.agg #[v0,v1]) rfl (fun w' hS=>(rl 34 0 [v0,v1] hS.2)) ?_
 refine ow 23 (.agg #[u0,u1,u2,u3]) rfl (fun w' hS=>(rl 36 0 [u0,u1,u2,u3] hS.1)) ?_
 refine oe ?_
 have aj:=g8.kp.trans aa.kp
 replace hb:=hb.kp aj
 refine ec 19 (zl5 hb) ?_
 rintro aK aH ⟨⟨az,aO,rfl,aq⟩,ab⟩
 refine ⟨_,rfl,?_⟩
 replace hB:=hB.trans ab
 replace L2:=L2.gr ab
 replace L3:=L3.gr ab
 refine ⟨⟨L2,L3⟩,?_⟩
 simp only [p3,p4]
 refine oe ?_
 have al:=g6.kp.trans (g8.kp.trans (aa.kp.trans ab.kp))
 replace ha:=ha.kp al
 refine ec 20 (zm9 ha.num aq (by omega)) ?_
 rintro e31 aI ⟨⟨aM,aE,rfl,ak⟩,ad⟩
 refine ⟨_,rfl,?_⟩
 replace hB:=hB.trans ad
 replace L2:=L2.gr ad
 replace L3:=L3.gr ad
 refine ⟨⟨L2,L3⟩,?_⟩
 simp only [p3,p4]
 refine oe ?_
 replace ha:=ha.kp ad.kp
 refine ec 24 (zl5 ha) ?_
 rintro aD aA ⟨⟨aB,aG,rfl,au⟩,ac⟩
 refine ⟨_,rfl,?_⟩
 replace hB:=hB.trans ac
 replace L2:=L2.gr ac
 replace L3:=L3.gr ac
 refine ⟨⟨L2,L3⟩,?_⟩
 simp only [p3,p4]
 refine oe ?_
 have ah:=ab.kp.trans (ad.kp.trans ac.kp)
 replace hb:=hb.kp ah
 refine ec 25 (zm9 hb.num au (by omega)) ?_
 rintro aF aC ⟨⟨aL,aN,rfl,av⟩,ae⟩
 refine ⟨_,rfl,?_⟩
 replace hB:=hB.trans ae
 replace L2:=L2.gr ae
 replace L3:=L3.gr ae
 refine ⟨⟨L2,L3⟩,?_⟩
 simp only [p3,p4]
 refine oe ?_
 have ai:=ac.kp.trans ae.kp
 replace ak:=ak.kp ai
 refine ec 26 (zf2 ak av (by omega) (by omega)) ?_
 rintro ay aJ ⟨rfl,af⟩
 refine ⟨_,rfl,?_⟩
 replace hB:=hB.trans af
 replace L2:=L2.gr af
 replace L3:=L3.gr af
 refine ⟨⟨L2,L3⟩,?_⟩
 simp only [p3,p4]
 refine ov 4 (.int .i64 (sgn ((a.num*(b.den:Int)) - (b.num*(a.den:Int))))) ?_
 refine zb1 ?_
 refine ap _ _ ?_
 try clear ap ar
 refine wp_ret ?_
 refine bodyPost_ret (v:=(.int .i64 (sgn ((a.num*(b.den:Int)) - (b.num*(a.den:Int)))))) (za7 rfl rfl) rfl ⟨?_,hB⟩
 exact rfl

set_option maxRecDepth 100000 in
set_option maxHeartbeats 1000000 in
theorem rcomp_f {k m:Nat} {u0 u1 u2 u3 v0 v1 v2 v3:Value} {a b:Rat} {w:World} (ha:IsRat w k u0 u1 u2 u3 a) (hb:IsRat w m v0 v1 v2 v3 b) (_hk:k+m≤100000) (wa:a.den≠1):
    Calls Tryz.prog 37 #[(.agg #[u0,u1,u2,u3]),(.agg #[v0,v1,v2,v3])] w fun e w'=>e=.returned (.int .i64 (yh3 a b))∧Gr w w':=by
 have hka:=ha.big
 have hkb:=hb.big
 go_enter Tryz.func37,Tryz.ntmps37
 have hB:=Gr.refl w
 refine wp_seq_k (fun K1 k1=>?_)
 refine rg [0,1,2] ?_
 refine se ?_
 refine eb 36 #[u0,u1,u2,u3] 2 hB fun b2 w2 g2 L2 o2 q2 hB=>?_
 simp only [p3,p4]
 refine se ?_
 refine eb 36 #[v0,v1,v2,v3] 3 hB fun b3 w3 g3 L3 o3 q3 hB=>?_
 simp only [p3,p4]
 refine sv 4 (.int .i64 0) ?_
 refine za0 ?_
 refine k1 _ _ ?_
 try clear k1 K1
 refine wp_seq_k (fun K4 k4=>?_)
 refine wp_seq_k (fun K5 k5=>?_)
 refine rg [0,1,2,3,4,5] ?_
 replace L2:=L2.gr g3
 refine sw 5 (.agg #[u0,u1,u2,u3]) rfl (rl 36 0 [u0,u1,u2,u3] L2) ?_
 refine se ?_
 have ar:=g2.kp.trans g3.kp
 replace ha:=ha.kp ar
 refine ec 6 (zo5 ha (by omega) wa) ?_
 rintro e6 w6 ⟨rfl,g6⟩
 refine ⟨_,rfl,?_⟩
 replace hB:=hB.trans g6
 simp only [p3,p4]
 refine sv 7 (.bool false) ?_
 refine ss 8 ?_
 refine ss 9 ?_
 refine sv 10 (.bool false) ?_
 refine za0 ?_
 refine k5 _ _ ?_
 try clear k5 K5
 refine wp_cond_false rfl ?_
 refine wp_skip ?_
 refine k4 _ _ ?_
 try clear k4 K4
 refine wp_seq_k (fun K8 k8=>?_)
 have aa:=Gr.drew w6
 replace hB:=hB.trans aa
 replace L2:=L2.gr (g6.trans aa)
 replace L3:=L3.gr (g6.trans aa)
 refine za2 (fun w'=>Lc w' b2 #[u0,u1,u2,u3] 36∧Lc w' b3 #[v0,v1,v2,v3] 36) [(true,0),(true,1),(true,2),(true,5),(true,6),(true,7),(false,3),(false,4),(false,8),(false,9),(false,10),(true,11)] (by kernel_rfl) (by kernel_rfl) (by kernel_rfl) (by decide) (fun _ _ _ _ _ h=>h) ⟨L2,L3⟩ ?_
 refine ov 16 (.pointer (some ⟨b2,0,none⟩)) ?_
 refine ow 17 (.agg #[u0,u1]) rfl (fun w' hS=>(rl 34 0 [u0,u1] hS.1)) ?_
 refine ow 18 (.agg #[v0,v1,v2,v3]) rfl (fun w' hS=>(rl 36 0 [v0,v1,v2,v3] hS.2)) ?_
 refine ov 21 (.pointer (some ⟨b3,0,none⟩)) ?_
 refine ow 22 (.agg #[v0,v1]) rfl (fun w' hS=>(rl 34 0 [v0,v1] hS.2)) ?_
 refine ow 23 (.agg #[u0,u1,u2,u3]) rfl (fun w' hS=>(rl 36 0 [u0,u1,u2,u3] hS.1)) ?_
 refine oe ?_
 have ai:=g2.kp.trans (g3.kp.trans (g6.kp.trans aa.kp))
 replace hb:=hb.kp ai
 refine ec 19 (zl5 hb) ?_
 rintro aB aJ ⟨⟨aE,ax,rfl,au⟩,ac⟩
 refine ⟨_,rfl,?_⟩
 replace hB:=hB.trans ac
 replace L2:=L2.gr ac
 replace L3:=L3.gr ac
 refine ⟨⟨L2,L3⟩,?_⟩
 simp only [p3,p4]
 refine oe ?_
 have ak:=g6.kp.trans (aa.kp.trans ac.kp)
 replace ha:=ha.kp ak
 refine ec 20 (zm9 ha.num au (by omega)) ?_
 rintro av aI ⟨⟨aD,aL,rfl,ah⟩,ad⟩
 refine ⟨_,rfl,?_⟩
 replace hB:=hB.trans ad
 replace L2:=L2.gr ad
 replace L3:=L3.gr ad
 refine ⟨⟨L2,L3⟩,?_⟩
 simp only [p3,p4]
 refine oe ?_
 replace ha:=ha.kp ad.kp
 refine ec 24 (zl5 ha) ?_
 rintro e32 aC ⟨⟨aG,aF,rfl,ap⟩,ab⟩
 refine ⟨_,rfl,?_⟩
 replace hB:=hB.trans ab
 replace L2:=L2.gr ab
 replace L3:=L3.gr ab
 refine ⟨⟨L2,L3⟩,?_⟩
 simp only [p3,p4]
 refine oe ?_
 have aj:=ac.kp.trans (ad.kp.trans ab.kp)
 replace hb:=hb.kp aj
 refine ec 25 (zm9 hb.num ap (by omega)) ?_
 rintro aA ay ⟨⟨az,aH,rfl,aq⟩,ae⟩
 refine ⟨_,rfl,?_⟩
 replace hB:=hB.trans ae
 replace L2:=L2.gr ae
 replace L3:=L3.gr ae
 refine ⟨⟨L2,L3⟩,?_⟩
 simp only [p3,p4]
 refine oe ?_
 have af:=ab.kp.trans ae.kp
 replace ah:=ah.kp af
 refine ec 26 (zf2 ah aq (by omega) (by omega)) ?_
 rintro aw aK ⟨rfl,al⟩
 refine ⟨_,rfl,?_⟩
 replace hB:=hB.trans al
 replace L2:=L2.gr al
 replace L3:=L3.gr al
 refine ⟨⟨L2,L3⟩,?_⟩
 simp only [p3,p4]
 refine ov 4 (.int .i64 (sgn ((a.num*(b.den:Int)) - (b.num*(a.den:Int))))) ?_
 refine zb1 ?_
 refine k8 _ _ ?_
 try clear k8 K8
 refine wp_ret ?_
 refine bodyPost_ret (v:=(.int .i64 (sgn ((a.num*(b.den:Int)) - (b.num*(a.den:Int)))))) (za7 rfl rfl) rfl ⟨?_,hB⟩
 exact rfl

theorem zQ3 {k m:Nat} {u0 u1 u2 u3 v0 v1 v2 v3:Value} {a b:Rat} {w:World} (ha:IsRat w k u0 u1 u2 u3 a) (hb:IsRat w m v0 v1 v2 v3 b) (hk:k+m≤100000):
  Calls Tryz.prog 37 #[.agg #[u0,u1,u2,u3],.agg #[v0,v1,v2,v3]] w fun e w'=>e=.returned (.int .i64 (yh3 a b))∧Gr w w':=by
 by_cases wa:a.den=1
 ·by_cases wb:b.den=1
  ·exact rcomp_tt ha hb hk wa wb
  ·exact rcomp_tf ha hb hk wa wb
 ·exact rcomp_f ha hb hk wa

def Tab (w:World):Prop:=Lib.TabIs Tryz.prog w "internal/strconv.uint64pow10" .u64 Lib.pow10Tab
theorem Tab.gr {w w':World} (h:Tab w) (g:Gr w w'):Tab w':=by
 unfold Tab Lib.TabIs World.var? at*
 cases hn:Tryz.prog.globalNamed "internal/strconv.uint64pow10" with
 | none=>rw [hn] at h;cases h
 | some k=>
  rw [hn] at h
  simp only [Option.bind_some] at h ⊢
  cases hk:w.heap[k]? with
  | none=>rw [hk] at h;cases h
  | some o=>rw [g.heap hk];rw [hk] at h;exact h
theorem itoa_t (n:Int) (h0:0≤n) (h1:n<1000000000) {w:World} (ht:Tab w):
  Calls Tryz.prog 135 #[.int .i64 n] w fun e w'=>e=.returned (.string ⟨(Lib.decDigits n.toNat).toArray⟩)∧Gr w w':=by
 refine (Tryz.strconv_Itoa n (by omega) (by omega) w ht).mono ?_
 rintro e w' ⟨he,k,os,rfl⟩
 refine ⟨?_,?_⟩
 ·rw [he];unfold Lib.itoa;rw [if_neg (by omega)]
 ·refine ⟨rfl,rfl,rfl,by simp [Sort.grow],fun i hi=>?_⟩
  show (w.heap++os)[i]?=w.heap[i]?
  rw [Array.getElem?_append_left hi]
theorem repeat9 (n:Nat) (h:n≤9) (w:World):
  Calls Tryz.prog 136 #[.string ⟨#[48]⟩,.int .i64 (9 - (n:Int))] w fun e w'=>e=.returned (.string ⟨(Lib.repeatL [48] (9 - n)).toArray⟩)∧Gr w w':=by
 have e:(9 - (n:Int))=((9 - n:Nat):Int):=by omega
 rw [e]
 refine (Tryz.strings_Repeat ⟨#[48]⟩ (9 - n) w (by omega) ?_).mono ?_
 ·show 1*(9 - n)≤_
  omega
 ·rintro e w' ⟨he,hb⟩
  exact ⟨he,hb⟩

def yj0 (l:List UInt8):Value:=.string ⟨l.toArray⟩
theorem zz9:∀ (vs:List Value) (off:Nat) (cs:Array Value),off+vs.length≤cs.size→(zd8 cs off vs).size=cs.size∧∀ i,(zd8 cs off vs)[i]?=if off≤i∧i<off+vs.length then vs[i - off]? else cs[i]?
 | [],off,cs,_=>⟨rfl,fun i=>by rw [if_neg (by simp only [List.length_nil];omega)];rfl⟩
 | v::vs,off,cs,h=>by
  simp only [List.length_cons] at h
  obtain ⟨h1,h2⟩:=zz9 vs (off+1) (cs.setIfInBounds off v) (by rw [Array.size_setIfInBounds];omega)
  refine ⟨by rw [zd8,h1];simp,fun i=>?_⟩
  rw [zd8,h2 i]
  by_cases e:off=i
  ·subst e
   have h9:off<cs.size:=by omega
   rw [if_neg (by omega),if_pos (by simp)]
   simp [h9]
  ·by_cases hi:off+1≤i∧i<off+1+vs.length
   ·rw [if_pos hi,if_pos (by simp;omega)]
    have:i - off=(i - (off+1))+1:=by omega
    rw [this,List.getElem?_cons_succ]
   ·rw [if_neg hi,if_neg (by simp;omega),Array.getElem?_setIfInBounds_ne e]
theorem zS6 {w:World} {T:Nat} {L:List (List UInt8)} {g:Nat} {cur:Array Value} (hg:w.heap[g]?=some (.cells cur T (0,0))) (ht:cur.toList.take (L.map yj0).length=L.map yj0) (i:Nat) (hi:i<L.length):
  w.cell? ⟨g,i,none⟩=some (yj0 (L.getD i [])):=by
 rw [zb4 hg]
 have h1:(cur.toList.take (L.map yj0).length)[i]?=(L.map yj0)[i]?:=by rw [ht]
 rw [List.getElem?_take_of_lt (by simpa using hi)] at h1
 rw [Array.getElem?_toList] at h1
 rw [h1]
 simp [hi]
theorem zX1 {w:World} {B:Nat} {v:Value} {L:List (List UInt8)} (h:OwnS w 9 B v (L.map yj0)) (hp:0<L.length):
  Calls Tryz.prog 137 #[v] w fun e w'=>e=.returned (.tuple #[])∧OwnS w' 9 B v (L.reverse.map yj0)∧Wt 9 w w'∧(∀ w0,Gr w0 w→w0.heap.size≤B→Gr w0 w'):=by
 obtain ⟨g,cap,cur,rfl,hb,hg,h1,h2,h3,h4⟩:=h.block (by simpa using hp)
 rw [List.length_map] at h1 ⊢
 have hlen:L.length≤9223372036854775807:=by unfold maxLen at h2;omega
 refine (Tryz.slices_Reverse_string_cells g 0 L.length cap (fun i=>⟨(L.getD i []).toArray⟩) w hlen (fun i hi=>?_) (fun i hi=>zk7 hg _)).mono ?_
 ·rw [Nat.zero_add];exact zS6 hg h4 i hi
 rintro e w' ⟨he,q,rfl⟩
 have es:(Lib.strsOf (fun i=>⟨(L.getD i []).toArray⟩) L.length)=L:=by
  unfold Lib.strsOf
  apply List.ext_getElem
  ·simp
  ·intro i h1 h2;simp at h1;simp [h1]
 rw [es]
 have hst:=St.setCells g (L.reverse.map encStr) 0 (w.drewN q)
 have hh:((w.drewN q).setCells g 0 (L.reverse.map encStr)).heap[g]?=some (.cells (zd8 cur 0 (L.reverse.map encStr)) 9 (0,0)):=zl7 _ 0 (w:=w.drewN q) hg
 obtain ⟨ab,aa⟩:=zz9 (L.reverse.map encStr) 0 cur (by simp;omega)
 have hbl:∀ k,k≠g→((w.drewN q).setCells g 0 (L.reverse.map encStr)).heap[k]?=w.heap[k]?:=fun k hk=>hst.block k hk
 refine ⟨he,⟨by simp,.inr ⟨g,cap,_,by simp,hb,hh,by simpa using h1,h2,by rw [ab];omega,?_⟩⟩,⟨hst.os,hst.tape,hst.output,Nat.le_of_eq hst.size.symm,fun b cs t fr ht hk=>?_⟩,fun w0 hG hB=>?_⟩
 ·apply List.ext_getElem?
  intro i
  by_cases hi:i<L.length
  ·rw [List.getElem?_take_of_lt (by simpa using hi),Array.getElem?_toList,aa i,if_pos (by simpa using hi)]
   rfl
  ·rw [List.getElem?_eq_none (by simp;omega),List.getElem?_eq_none (by simp;omega)]
 ·rw [hbl b (fun e=>?_)]
  ·exact hk
  ·subst e
   rw [hg] at hk
   simp only [Option.some.injEq,Obj.cells.injEq] at hk
   exact ht hk.2.1.symm
 ·exact Below.trans hG ⟨hst.os,hst.tape,hst.output,Nat.le_of_eq hst.size.symm,fun k hk=>hbl k (by omega)⟩
theorem join_own {w:World} {B:Nat} {v:Value} {L:List (List UInt8)} (h:OwnS w 9 B v (L.map yj0)) (hp:0<L.length) (hl:L.flatten.length≤140737488355328) (hn:L.length≤1000000):
  Calls Tryz.prog 138 #[v,.string ⟨#[]⟩] w fun e w'=>e=.returned (.string ⟨L.flatten.toArray⟩)∧Gr w w':=by
 obtain ⟨g,cap,cur,rfl,hb,hg,h1,h2,h3,h4⟩:=h.block (by simpa using hp)
 have em:((L.map fun l=>(⟨l.toArray⟩:ByteArray)).map fun x=>x.data.toList)=L:=by
  rw [List.map_map]
  conv=>rhs;rw [← List.map_id L]
  exact List.map_congr_left fun l _=>by simp
 have:=Tryz.strings_Join g 0 cap (L.map fun l=>⟨l.toArray⟩) ⟨#[]⟩ w (fun j x hj=>?_) (zf6 hg) (by simp;omega) (by simpa using h1) (by
  rw [em];show (Lib.join L []).length≤_;rw [zy9];exact hl)
 ·rw [em] at this
  simp only [List.length_map] at this ⊢
  refine this.mono ?_
  rintro e w' ⟨he,hb⟩
  refine ⟨?_,hb⟩
  rw [he]
  show Ending.returned (.string ⟨(Lib.join L []).toArray⟩)=_
  rw [zy9]
 ·rw [Nat.zero_add,zS6 hg h4 j (by have:=(List.getElem?_eq_some_iff.1 hj).1;simpa using this)]
  obtain ⟨hj',e⟩:=List.getElem?_eq_some_iff.1 hj
  subst e
  simp at hj'
  simp [hj',yj0]
theorem itoa_n (n:Nat) (h1:n<1000000000) {w:World} (ht:Tab w):
  Calls Tryz.prog 135 #[.int .i64 (n:Int)] w fun e w'=>e=.returned (.string ⟨(Lib.decDigits n).toArray⟩)∧Gr w w':=itoa_t n (by omega) (by omega) ht
theorem short9 {ao:Option Addr} {la ca u:Nat} {w:World} (h:Mag w ao la ca (u:Int)) (hl:la≤1000000):
  Calls Tryz.prog 134 #[.slice ao la ca,.int .u32 1000000000] w fun e w'=>
   (∃ go k cap,e=.returned (.tuple #[.slice go k cap,.int .u32 ((u % 1000000000:Nat):Int)])∧Mag w' go k cap ((u/1000000000:Nat):Int))∧Gr w w':=
 yj8 ao la ca u 1000000000 w (by omega) h (by omega) (by omega)
theorem Mag.pos0 {w:World} {ao:Option Addr} {la ca u:Nat} (h:Mag w ao la ca (u:Int)) (hb:decide ((0:Int)<(la:Int))=true):0<u:=by
 have h0:(0:Int)<la:=by simpa using hb
 rcases Nat.eq_zero_or_pos u with e | e
 ·have:=h.nl.len_zero.2 (by omega);omega
 ·exact e
theorem Mag.zero0 {w:World} {ao:Option Addr} {la ca u:Nat} (h:Mag w ao la ca (u:Int)) (hb:decide ((0:Int)<(la:Int))=false):u=0:=by
 have h0:¬ (0:Int)<la:=by simpa using hb
 have:=h.nl.len_zero.1 (by omega)
 omega
theorem Mag.len9 {w:World} {ao:Option Addr} {la ca u k:Nat} (h:Mag w ao la ca (u:Int)) (hu:u<2 ^ k) (hk:k≤1000000):la≤1000000:=by
 have:=h.nl.len_sz (show Sz k (u:Int) by unfold Sz;simpa using hu)
 omega
set_option maxRecDepth 100000 in
set_option maxHeartbeats 4000000 in
theorem text_pos {k N:Nat} {s:Bool} {ao:Option Addr} {la ca:Nat} {w:World} (ha:Mag w ao la ca (N:Int)) (hN:0<N) (hNk:N<2 ^ k) (_hk:k≤900000) (ht:Tab w):
    Calls Tryz.prog 114 #[(.agg #[(.bool (s)),.slice ao la ca])] w fun e w'=>e=.returned (.string ⟨((if s then [45] else [])++Lib.decDigits N).toArray⟩)∧Gr w w':=by
 have hla:0<la:=by
    rcases Nat.eq_zero_or_pos la with e | e
    · have:=ha.nl.len_zero.1 e;omega
    · exact e
 have e0:((la:Int)==(0:Int))=false:=by simp;omega
 go_enter Tryz.func114,Tryz.ntmps114
 have hB:=Gr.refl w
 refine wp_seq_k (fun K1 k1=>?_)
 refine rg [0,1] ?_
 refine se ?_
 refine eb 34 #[(.bool (s)),.slice ao la ca] 1 hB fun b2 w2 g2 L2 o2 q2 hB=>?_
 simp only [p3,p4]
 refine sv 2 (.string ⟨([]:List UInt8).toArray⟩) ?_
 refine za0 ?_
 refine k1 _ _ ?_
 try clear k1 K1
 refine wp_seq_k (fun K3 k3=>?_)
 refine wp_seq_k (fun K4 k4=>?_)
 refine rg [0,1,2,3] ?_
 refine sv 9 (.pointer (some ⟨b2,1,none⟩)) ?_
 refine sw 10 (.slice ao la ca) rfl (rk 32 1 L2) ?_
 refine sv 11 (.int .i64 ((la:Int))) ?_
 refine sw 12 (.bool false) rfl (RunV.bool (x:=((la:Int)==(0:Int))) (rvk (by kernel_rfl)) e0) ?_
 refine za0 ?_
 refine k4 _ _ ?_
 try clear k4 K4
 refine wp_cond_false rfl ?_
 refine wp_skip ?_
 refine k3 _ _ ?_
 try clear k3 K3
 refine wp_seq_k (fun K5 k5=>?_)
 refine rg [0] ?_
 refine sv 3 (.slice none 0 0) ?_
 refine za0 ?_
 refine k5 _ _ ?_
 try clear k5 K5
 refine wp_seq_k (fun K6 k6=>?_)
 refine wp_seq_k (fun K7 k7=>?_)
 refine rg [0,1,2] ?_
 refine sv 13 (.pointer (some ⟨b2,1,none⟩)) ?_
 refine sw 14 (.slice ao la ca) rfl (rk 32 1 L2) ?_
 refine sv 4 (.slice ao la ca) ?_
 refine za0 ?_
 refine k7 _ _ ?_
 try clear k7 K7
 refine wp_block ?_
 replace ha:=ha.kp g2.kp
 refine zg2 (a:=⟨List.toArray ?l8,[]⟩) (fun n a w'=>∃ (u:Nat) (L:List (List UInt8)) (v:Value) (mo:Option Addr) (ml:Nat) (mc:Nat) (u8:Nat→Value),u=n∧a=⟨[(u8 0),(.pointer (some ⟨b2,0,none⟩)),(.string ⟨([]:List UInt8).toArray⟩),v,.slice mo ml mc,(u8 5),(u8 6),(u8 7),undef,(u8 9),(u8 10),(u8 11),.bool false,(u8 13),(u8 14),(u8 15),(u8 16),(u8 17),(u8 18),(u8 19),(u8 20),(u8 21),(u8 22),(u8 23),(u8 24),(u8 25),(u8 26),(u8 27),(u8 28),(u8 29),(u8 30),(u8 31),(u8 32),(u8 33),(u8 34),(u8 35),(u8 36),(u8 37),(u8 38),(u8 39),undef,undef,undef,undef,undef,undef,undef,undef,undef].toArray,[]⟩∧L++zU5 u=zU5 N∧u<2 ^ k∧Mag w' mo ml mc (u:Int)∧OwnS w' 9 w.heap.size v (L.map yj0)∧Lc w' b2 #[(.bool (s)),.slice ao la ca] 34∧Gr w w') (N) ?_ ?_
 ·exact ⟨N,[],.slice none 0 0,ao,la,ca,(fun i=>List.getD ?l8 i undef),rfl,rfl,(by simp),hNk,ha,(OwnS.nil _ _ _),L2,hB⟩
 rintro n8 a8 w8 ⟨u,L,v,mo,ml,mc,u8,rfl,rfl,hX,hu,hm,hown,L2,hB⟩ K8 k8
 have hln:L.length≤1000000:=by have h1:=zZ3 k N hNk;rw [← hX,List.length_append] at h1;omega
 have h9:=dec9 u
 have bp:(Lib.repeatL [48] (9 - (Lib.decDigits (u % 1000000000)).length)).length≤9:=by rw [Lib.repeatL_length];simp
 refine wp_seq_k (fun K9 k9=>?_)
 refine wp_seq_k (fun a1 aL=>?_)
 refine rg [0,1,2] ?_
 refine sv 15 (.slice mo ml mc) ?_
 refine sv 16 (.int .i64 ((ml:Int))) ?_
 refine sv 17 (.bool (decide ((0:Int)<(ml:Int)))) ?_
 refine za0 ?_
 refine aL _ _ ?_
 try clear aL a1
 refine wp_cond_split (t:=decide ((0:Int)<(ml:Int))) rfl (fun ak=>?_) (fun ak=>?_)
 ·have ay:=ak
  refine wp_skip ?_
  refine k9 _ _ ?_
  try clear k9 K9
  refine wp_block ?_
  refine wp_seq_k (fun a9 aP=>?_)
  refine rg [0,1,2,3,4,5,6] ?_
  refine sv 19 (.slice mo ml mc) ?_
  refine se ?_
  refine ec 20 (short9 hm (hm.len9 hu (by omega))) ?_
  rintro e13 bq ⟨⟨ab,ac,aa,rfl,af⟩,aq⟩
  refine ⟨_,rfl,?_⟩
  replace hB:=hB.trans aq
  simp only [p3,p4]
  refine sv 18 (.tuple #[.slice ab ac aa,(.int .u32 (((u % 1000000000:Nat):Int)))]) ?_
  refine sv 21 (.slice ab ac aa) ?_
  refine sv 22 (.int .u32 (((u % 1000000000:Nat):Int))) ?_
  refine sv 5 (.slice ab ac aa) ?_
  refine sv 6 (.int .u32 (((u % 1000000000:Nat):Int))) ?_
  refine za0 ?_
  refine aP _ _ ?_
  try clear aP a9
  refine wp_seq_k (fun a6 aQ=>?_)
  refine rg [0,1,2,3] ?_
  refine sv 23 (.int .u32 (((u % 1000000000:Nat):Int))) ?_
  refine sw 24 (.int .i64 (((u % 1000000000:Nat):Int))) rfl (RunV.int (x:=IntKind.i64.wrap (((u % 1000000000:Nat):Int))) (y:=((u % 1000000000:Nat):Int)) (rvk (by kernel_rfl)) (by first | rfl | (rw [IntKind.wrap_i64];omega))) ?_
  refine se ?_
  refine ec 25 (itoa_n (u % 1000000000) (by omega) (ht.gr hB)) ?_
  rintro bo bg ⟨rfl,ai⟩
  refine ⟨_,rfl,?_⟩
  replace hB:=hB.trans ai
  simp only [p3,p4]
  refine sv 7 (.string ⟨(Lib.decDigits (u % 1000000000):List UInt8).toArray⟩) ?_
  refine za0 ?_
  refine aQ _ _ ?_
  try clear aQ a6
  refine wp_seq_k (fun aG au=>?_)
  refine wp_seq_k (fun bc aH=>?_)
  refine rg [0,1,2] ?_
  refine sv 26 (.slice ab ac aa) ?_
  refine sv 27 (.int .i64 ((ac:Int))) ?_
  refine sv 28 (.bool (decide ((0:Int)<(ac:Int)))) ?_
  refine za0 ?_
  refine aH _ _ ?_
  try clear aH bc
  refine wp_cond_split (t:=decide ((0:Int)<(ac:Int))) rfl (fun ah=>?_) (fun ah=>?_)
  ·refine rg [0,1,2,3,4,5,6] ?_
   refine sv 29 (.string ⟨(Lib.decDigits (u % 1000000000):List UInt8).toArray⟩) ?_
   refine sv 30 (.int .i64 (((Lib.decDigits (u % 1000000000)).length:Int))) ?_
   refine sw 31 (.int .i64 ((9 - ((Lib.decDigits (u % 1000000000)).length:Int)))) rfl (RunV.int (x:=IntKind.i64.wrap ((9 - ((Lib.decDigits (u % 1000000000)).length:Int)))) (y:=(9 - ((Lib.decDigits (u % 1000000000)).length:Int))) (rvk (by kernel_rfl)) (by first | rfl | (rw [IntKind.wrap_i64];omega))) ?_
   refine se ?_
   refine ec 32 (repeat9 (Lib.decDigits (u % 1000000000)).length (dec9 u) _) ?_
   rintro bk bu ⟨rfl,ax⟩
   refine ⟨_,rfl,?_⟩
   replace hB:=hB.trans ax
   simp only [p3,p4]
   refine sv 33 (.string ⟨(Lib.decDigits (u % 1000000000):List UInt8).toArray⟩) ?_
   refine sw 34 (.string ⟨((Lib.repeatL [48] (9 - (Lib.decDigits (u % 1000000000)).length))++(Lib.decDigits (u % 1000000000)):List UInt8).toArray⟩) rfl (zz4 9 9 _ _ (Lib.repeatL [48] (9 - (Lib.decDigits (u % 1000000000)).length)) (Lib.decDigits (u % 1000000000)) rfl rfl rfl (by omega)) ?_
   refine sv 7 (.string ⟨((Lib.repeatL [48] (9 - (Lib.decDigits (u % 1000000000)).length))++(Lib.decDigits (u % 1000000000)):List UInt8).toArray⟩) ?_
   refine za0 ?_
   refine au _ _ ?_
   try clear au aG
   refine wp_seq_k (fun ba aV=>?_)
   refine rg [0,1,2,3,4] ?_
   refine sv 35 v ?_
   refine sv 36 (.string ⟨((Lib.repeatL [48] (9 - (Lib.decDigits (u % 1000000000)).length))++(Lib.decDigits (u % 1000000000)):List UInt8).toArray⟩) ?_
   refine se ?_
   refine yb5 9 1 #[(.string ⟨((Lib.repeatL [48] (9 - (Lib.decDigits (u % 1000000000)).length))++(Lib.decDigits (u % 1000000000)):List UInt8).toArray⟩)] (some 37) rfl (fun _=>by kernel_rfl) (fun aX bt av aW bi=>?_)
   replace L2:=L2.gr (aq.trans (ai.trans ax))
   replace hB:=hB.trans av
   simp only [zB4,p3,p4]
   refine se ?_
   replace hown:=hown.gr (aq.trans (ai.trans (ax.trans av)))
   refine zD5 _ _ 179 9 w.heap.size (.string ⟨([]:List UInt8).toArray⟩) v _ aX (.string ⟨((Lib.repeatL [48] (9 - (Lib.decDigits (u % 1000000000)).length))++(Lib.decDigits (u % 1000000000)):List UInt8).toArray⟩) 1 (some 38) 16 rfl rfl rfl rfl hown aW rfl w hB (Nat.le_refl _) (Below.size hB) (by rw [List.length_map];exact hln) (by decide) (by kernel_rfl) (by kernel_rfl) rfl (fun aF bm ad ar aB=>?_)
   replace hB:=aB
   replace ad:=OwnS.snoc (f:=yj0) ad
   simp only [zB4,p3,p4]
   refine sv 3 aF ?_
   refine za0 ?_
   refine aV _ _ ?_
   try clear aV ba
   refine rg [0,1] ?_
   refine sv 39 (.slice ab ac aa) ?_
   refine sv 4 (.slice ab ac aa) ?_
   refine za0 ?_
   have aA:=ai.kp.trans (ax.kp.trans (av.kp.trans (ar.kp (by decide))))
   replace af:=af.kp aA
   replace L2:=ar.lc (L2.gr av) (by decide)
   refine k8 (u/1000000000) ⟨List.toArray ?l24,[]⟩ _ (Nat.div_lt_self (Mag.pos0 hm ay) (by omega)) ?_
   exact ⟨u/1000000000,_,aF,ab,ac,aa,(fun i=>List.getD ?l24 i undef),rfl,rfl,(zP4 hX (Mag.pos0 hm ay) (grp_hi (Mag.pos0 af ah))),(Nat.lt_of_le_of_lt (Nat.div_le_self _ _) hu),af,ad,L2,hB⟩
  ·refine wp_skip ?_
   refine au _ _ ?_
   try clear au aG
   refine wp_seq_k (fun a2 aO=>?_)
   refine rg [0,1,2,3,4] ?_
   refine sv 35 v ?_
   refine sv 36 (.string ⟨(Lib.decDigits (u % 1000000000):List UInt8).toArray⟩) ?_
   refine se ?_
   refine yb5 9 1 #[(.string ⟨(Lib.decDigits (u % 1000000000):List UInt8).toArray⟩)] (some 37) rfl (fun _=>by kernel_rfl) (fun a4 bn aw a7 bh=>?_)
   replace L2:=L2.gr (aq.trans ai)
   replace hB:=hB.trans aw
   simp only [zB4,p3,p4]
   refine se ?_
   replace hown:=hown.gr (aq.trans (ai.trans aw))
   refine zD5 _ _ 179 9 w.heap.size (.string ⟨([]:List UInt8).toArray⟩) v _ a4 (.string ⟨(Lib.decDigits (u % 1000000000):List UInt8).toArray⟩) 1 (some 38) 16 rfl rfl rfl rfl hown a7 rfl w hB (Nat.le_refl _) (Below.size hB) (by rw [List.length_map];exact hln) (by decide) (by kernel_rfl) (by kernel_rfl) rfl (fun aS bf ae ap aE=>?_)
   replace hB:=aE
   replace ae:=OwnS.snoc (f:=yj0) ae
   simp only [zB4,p3,p4]
   refine sv 3 aS ?_
   refine za0 ?_
   refine aO _ _ ?_
   try clear aO a2
   refine rg [0,1] ?_
   refine sv 39 (.slice ab ac aa) ?_
   refine sv 4 (.slice ab ac aa) ?_
   refine za0 ?_
   have aD:=ai.kp.trans (aw.kp.trans (ap.kp (by decide)))
   replace af:=af.kp aD
   replace L2:=ap.lc (L2.gr aw) (by decide)
   refine k8 (u/1000000000) ⟨List.toArray ?l29,[]⟩ _ (Nat.div_lt_self (Mag.pos0 hm ay) (by omega)) ?_
   exact ⟨u/1000000000,_,aS,ab,ac,aa,(fun i=>List.getD ?l29 i undef),rfl,rfl,(zP4 hX (Mag.pos0 hm ay) (grp_lo (by rw [Mag.zero0 af ah];omega))),(Nat.lt_of_le_of_lt (Nat.div_le_self _ _) hu),af,ae,L2,hB⟩
 ·have hz:=Mag.zero0 hm ak
  subst hz
  rw [zs6,List.append_nil] at hX
  have aM:0<L.length:=by rw [hX];exact yj5 hN
  have htx:L.reverse.flatten=Lib.decDigits N:=by rw [hX];exact yj4 N N (Nat.le_refl _) hN
  have hfl:L.reverse.flatten.length≤140737488355328:=by rw [htx];have:=zg8 k N hNk;omega
  refine wp_exit ?_
  simp only [Exit.then,Exit.inBlock,↓reduceIte]
  refine k6 _ _ ?_
  try clear k6 K6
  refine wp_seq_k (fun a0 aI=>?_)
  refine rg [0,1] ?_
  refine sv 40 v ?_
  refine se ?_
  refine zN7 (some 41) rfl (by kernel_rfl) (zX1 hown aM) ?_
  rintro e31 bj ⟨rfl,al,az,aC⟩
  refine ⟨_,rfl,?_⟩
  replace hB:=aC _ hB (Nat.le_refl _)
  simp only [zB4,p3,p4]
  refine za0 ?_
  refine aI _ _ ?_
  try clear aI a0
  refine wp_seq_k (fun a3 aU=>?_)
  refine rg [0,1,2] ?_
  refine sv 42 v ?_
  refine se ?_
  refine ec 43 (join_own al (by rw [List.length_reverse];exact aM) hfl (by rw [List.length_reverse];exact hln)) ?_
  rintro e33 bd ⟨rfl,aR⟩
  refine ⟨_,rfl,?_⟩
  replace hB:=hB.trans aR
  simp only [p3,p4]
  refine sv 8 (.string ⟨(((L).reverse).flatten:List UInt8).toArray⟩) ?_
  refine za0 ?_
  refine aU _ _ ?_
  try clear aU a3
  refine wp_seq_k (fun aZ aN=>?_)
  refine wp_seq_k (fun bb aK=>?_)
  refine rg [0,1] ?_
  refine sv 44 (.pointer (some ⟨b2,0,none⟩)) ?_
  replace L2:=(az.lc L2 (by decide)).gr aR
  refine sw 45 (.bool (s)) rfl (rk 4 0 L2) ?_
  refine za0 ?_
  refine aK _ _ ?_
  try clear aK bb
  refine wp_cond_split (t:=s) rfl (fun aj=>?_) (fun aj=>?_)
  ·refine wp_seq_k (fun a5 aT=>?_)
   refine rg [0,1,2] ?_
   refine sv 46 (.string ⟨(((L).reverse).flatten:List UInt8).toArray⟩) ?_
   refine sw 47 (.string ⟨(([45])++(((L).reverse).flatten):List UInt8).toArray⟩) rfl (zz4 9 9 _ _ ([45]) (((L).reverse).flatten) rfl rfl rfl (by simp only [List.length_cons,List.length_nil];omega)) ?_
   refine sv 2 (.string ⟨(([45])++(((L).reverse).flatten):List UInt8).toArray⟩) ?_
   refine za0 ?_
   refine aT _ _ ?_
   try clear aT a5
   refine wp_ret ?_
   simp only [Exit.then]
   refine bodyPost_ret (v:=(.string ⟨(([45])++(((L).reverse).flatten):List UInt8).toArray⟩)) (za7 rfl rfl) rfl ⟨?_,hB⟩
   exact (by rw [aj];show Ending.returned _=_;rw [htx];rfl)
  ·refine wp_skip ?_
   refine aN _ _ ?_
   try clear aN aZ
   refine wp_seq_k (fun aY aJ=>?_)
   refine rg [0,1] ?_
   refine sv 48 (.string ⟨(((L).reverse).flatten:List UInt8).toArray⟩) ?_
   refine sv 2 (.string ⟨(((L).reverse).flatten:List UInt8).toArray⟩) ?_
   refine za0 ?_
   refine aJ _ _ ?_
   try clear aJ aY
   refine wp_ret ?_
   refine bodyPost_ret (v:=(.string ⟨(((L).reverse).flatten:List UInt8).toArray⟩)) (za7 rfl rfl) rfl ⟨?_,hB⟩
   exact (by rw [aj];show Ending.returned _=_;rw [htx];rfl)

set_option maxRecDepth 100000 in
set_option maxHeartbeats 1000000 in
theorem yk9 {ao:Option Addr} {ca:Nat} (w:World):
    Calls Tryz.prog 114 #[(.agg #[.bool false,.slice ao 0 ca])] w fun e w'=>e=.returned (.string ⟨#[48]⟩)∧Gr w w':=by
 go_enter Tryz.func114,Tryz.ntmps114
 have hB:=Gr.refl w
 refine wp_seq_k (fun K1 k1=>?_)
 refine rg [0,1] ?_
 refine se ?_
 refine eb 34 #[.bool false,.slice ao 0 ca] 1 hB fun b2 w2 g2 L2 o2 q2 hB=>?_
 simp only [p3,p4]
 refine sv 2 (.string ⟨([]:List UInt8).toArray⟩) ?_
 refine za0 ?_
 refine k1 _ _ ?_
 try clear k1 K1
 refine wp_seq_k (fun K3 k3=>?_)
 refine wp_seq_k (fun K4 k4=>?_)
 refine rg [0,1,2,3] ?_
 refine sv 9 (.pointer (some ⟨b2,1,none⟩)) ?_
 refine sw 10 (.slice ao 0 ca) rfl (rk 32 1 L2) ?_
 refine sv 11 (.int .i64 0) ?_
 refine sv 12 (.bool true) ?_
 refine za0 ?_
 refine k4 _ _ ?_
 try clear k4 K4
 refine wp_cond_true rfl ?_
 refine wp_seq_k (fun K5 k5=>?_)
 refine rg [0] ?_
 refine sv 2 (.string ⟨([48]:List UInt8).toArray⟩) ?_
 refine za0 ?_
 refine k5 _ _ ?_
 try clear k5 K5
 refine wp_ret ?_
 simp only [Exit.then]
 refine bodyPost_ret (v:=(.string ⟨([48]:List UInt8).toArray⟩)) (za7 rfl rfl) rfl ⟨?_,hB⟩
 exact rfl

theorem yl0 {k:Nat} {x y:Value} {z:Int} {w:World} (hz:IsInt w k x y z) (hk:k≤900000) (ht:Tab w):
  Calls Tryz.prog 114 #[.agg #[x,y]] w fun e w'=>e=.returned (.string ⟨(Lib.itoa z).toArray⟩)∧Gr w w':=by
 obtain ⟨ao,la,ca,rfl,rfl,ha,hs⟩:=hz
 by_cases h0:z=0
 ·subst h0
  have:la=0:=ha.nl.len_zero.2 rfl
  subst this
  have e1:decide ((0:Int)<0)=false:=by decide
  have e2:Lib.itoa 0=[48]:=by unfold Lib.itoa;rw [if_neg (by omega)];exact zc5 (by decide)
  rw [e1,e2]
  exact yk9 w
 ·have:=text_pos (s:=decide (z<0)) ha (by omega) (by unfold Sz at hs;exact hs) hk ht
  refine this.mono ?_
  rintro e w1 ⟨he,g⟩
  refine ⟨?_,g⟩
  rw [he]
  unfold Lib.itoa
  by_cases hz:z<0
  ·simp [hz]
  ·have:z.toNat=z.natAbs:=by omega
   simp [hz,this]

theorem zj1 {k:Nat} {z:Int} (h:Sz k z):(Lib.itoa z).length≤k+2:=by
 unfold Lib.itoa
 have h1:=zg8 k z.natAbs h
 split
 ·simp;omega
 ·have:z.toNat=z.natAbs:=by omega
  rw [this];omega
theorem zh1 {N D:Int} (h0:0<D):(Rat.divInt N D).num=N/(Int.gcd N D:Int)∧((Rat.divInt N D).den:Int)=D/(Int.gcd N D:Int)∧0<(Int.gcd N D:Int):=by
 refine ⟨by rw [Rat.num_divInt,Int.sign_eq_one_of_pos h0,Int.one_mul,Int.gcd_comm],?_,?_⟩
 ·rw [Rat.den_divInt,if_neg (by omega),Int.gcd_comm,Int.natCast_ediv]
  congr 1
  omega
 ·have:Int.gcd N D≠0:=by rw [Ne,Int.gcd_eq_zero_iff];omega
  omega
theorem text_w {N D:Int} (h0:0<D) (hb:(Lib.itoa (D/(Int.gcd N D:Int))==[49])=true):Lib.itoa (N/(Int.gcd N D:Int))=za3 (Rat.divInt N D):=by
 obtain ⟨h1,h2,_⟩:=zh1 (N:=N) h0
 have h3:D/(Int.gcd N D:Int)=1:=ye8 (by rw [itoa_one];exact eq_of_beq hb)
 rw [zZ4 (by omega),h1]
theorem text_f {N D:Int} (h0:0<D) (hb:(Lib.itoa (D/(Int.gcd N D:Int))==[49])=false):Lib.itoa (N/(Int.gcd N D:Int))++[47]++Lib.itoa (D/(Int.gcd N D:Int))=za3 (Rat.divInt N D):=by
 obtain ⟨h1,h2,_⟩:=zh1 (N:=N) h0
 have h3:¬ (Rat.divInt N D).den=1:=fun e=>by
  rw [e] at h2
  rw [← h2] at hb
  rw [show ((1:Nat):Int)=1 from rfl,itoa_one] at hb
  exact absurd hb (by decide)
 rw [yj6 h3,h1,h2]
theorem zN2 {k m:Nat} {N D:Int} (hN:Sz k N) (hD:Sz m D):Sz (k+m) (Int.gcd N D:Int):=sz_gcd hN hD
theorem zK0 {k:Nat} {N g:Int} (hN:Sz k N) (hg:0<g):Sz k (N/g):=by
 refine hN.of_le ?_
 rcases Int.lt_or_le N 0 with h | h
 ·have h1:N≤N/g:=by
   rw [Int.le_ediv_iff_mul_le hg]
   have:N*g≤N*1:=Int.mul_le_mul_of_nonpos_left (by omega) (by omega)
   omega
  have h2:N/g<0:=Int.ediv_neg_of_neg_of_pos h hg
  omega
 ·have h1:N/g≤N:=Int.ediv_le_self _ h
  have h2:0≤N/g:=Int.ediv_nonneg h (by omega)
  omega
theorem zF2 (N D:Int):Rat.divInt (-N) (-D)=Rat.divInt N D:=by
 exact Rat.neg_divInt_neg N D
theorem slash_at {l:List UInt8} {k:Nat} (h:l[k]?=some 47) (hn:(l.take k).all (· !=47)=true):(zH9 l).length=k∧zH9 l=l.take k∧denL l=l.drop (k+1)∧k<l.length:=by
 have hk:k<l.length:=(List.getElem?_eq_some_iff.1 h).1
 have e:l=l.take k++47::l.drop (k+1):=by
  have h1:l[k]=47:=(List.getElem?_eq_some_iff.1 h).2
  rw [← h1,List.getElem_cons_drop,List.take_append_drop]
 have hc:zr3 l=(l.take k,some (l.drop (k+1))):=by
  conv=>lhs;rw [e]
  exact zC3 (fun c hc=>by simpa using List.all_eq_true.1 hn c hc)
 unfold zH9 denL
 rw [hc]
 exact ⟨by simp;omega,rfl,rfl,hk⟩
theorem slash_no {l:List UInt8} (hn:l.all (· !=47)=true):zH9 l=l∧denL l=[49]:=by
 have hc:zr3 l=(l,none):=zC2 (fun c hc=>by simpa using List.all_eq_true.1 hn c hc)
 unfold zH9 denL
 rw [hc]
 exact ⟨rfl,rfl⟩
theorem zR9 {s:ByteArray} {k:Nat} (h:k<s.size) (ha:(s.data.toList.take k).all (· !=47)=true) (h0:((s[k].toNat:Int)==47)=false):(s.data.toList.take (k+1)).all (· !=47)=true:=by
 rw [List.take_add_one,zx5 h,List.all_append,ha]
 simp only [Option.toList_some,List.all_cons,List.all_nil,Bool.and_true,Bool.true_and,bne_iff_ne,ne_eq]
 intro e
 rw [e] at h0
 exact absurd h0 (by decide)
theorem yq6 {s:ByteArray} {k:Nat} (h:k<s.size) (h0:((s[k].toNat:Int)==47)=true):s.data.toList[k]?=some 47:=by
 rw [zx5 h]
 congr 1
 rw [← UInt8.toNat_inj]
 have:=eq_of_beq h0
 have:(47:UInt8).toNat=47:=rfl
 omega
set_option maxHeartbeats 1000000 in
theorem r2_slash (s:ByteArray) (w:World) (hs:s.size≤1000000):
  Calls Tryz.prog 118 #[.string s] w fun e w'=>e=.returned (.int .i64 ((zH9 s.data.toList).length:Int))∧w=w':=by
 go_enter Tryz.func118,Tryz.ntmps118
 go_wp2
 go_loop [3] (fun i=>∃ k:Nat,k≤s.size∧i=.int .i64 k∧Hid ((s.data.toList.take k).all (· !=47)=true)) (fun i=>s.size - (intOf i).toNat)
 case atStart=>exact ⟨0,Nat.zero_le _,rfl,rfl⟩
 case round=>
  obtain ⟨k,hk,rfl,hz⟩:=hrel
  by_cases hlt:k<s.size
  ·cases h0:((s[k].toNat:Int)==47)
   ·go_wp2
    go_round
    case rel=>exact ⟨k+1,by omega,by go_num,zR9 hlt hz.out h0⟩
    case measure=>simp [intOf];omega
   ·have HS:=Lib.hid (slash_at (yq6 hlt h0) hz.out)
    go_wp2
    go_ret
    exact ⟨zf7 (by rw [HS.out.1]),rfl⟩
  ·obtain rfl:k=s.size:=by omega
   have HS:Hid (zH9 s.data.toList=s.data.toList):=by
    have h1:=hz.out
    rw [List.take_of_length_le (by simp)] at h1
    exact (slash_no h1).1
   go_wp2
   go_ret
   exact ⟨zf7 (by rw [HS.out];simp),rfl⟩
theorem zN3 {s:ByteArray} {l:List UInt8} (h:s.data.toList=l):s=⟨l.toArray⟩:=by
 apply ByteArray.ext
 rw [← h]
theorem yq7 (l:List UInt8):(zH9 l).length≤l.length∧((zH9 l).length=l.length→zH9 l=l∧denL l=[49])∧((zH9 l).length<l.length→zH9 l=l.take (zH9 l).length∧denL l=l.drop ((zH9 l).length+1)):=by
 have h:=zU3 l
 unfold zH9 denL
 cases hd:(zr3 l).2 with
 | none=>
  rw [hd] at h;dsimp only at h
  rw [← h]
  exact ⟨Nat.le_refl _,fun _=>⟨rfl,rfl⟩,fun hh=>absurd hh (Nat.lt_irrefl _)⟩
 | some d=>
  rw [hd] at h;dsimp only at h
  clear hd
  generalize (zr3 l).1=a at*
  subst h
  refine ⟨by simp,fun hh=>by simp at hh,fun _=>⟨by simp,?_⟩⟩
  rw [List.drop_append]
  simp
set_option maxHeartbeats 1000000 in
theorem r2_parts (s:ByteArray) (w:World) (hs:s.size≤1000000):
  Calls Tryz.prog 99 #[.string s] w fun e w'=>e=.returned (.tuple #[.string ⟨(zH9 s.data.toList).toArray⟩,.string ⟨(denL s.data.toList).toArray⟩])∧Gr w w':=by
 obtain ⟨h1,h2,h3⟩:=yq7 s.data.toList
 have hsl:s.data.toList.length=s.size:=by simp
 rw [hsl] at h1 h2 h3
 obtain ⟨k,hk⟩:∃ k,k=(zH9 s.data.toList).length:=⟨_,rfl⟩
 have hc:=r2_slash s w hs
 rw [← hk] at h1 h2 h3 hc
 have HK:=Lib.hid hk
 have H2:=Lib.hid h2
 have H3:=Lib.hid h3
 clear hk h2 h3 hsl
 go_enter Tryz.func99,Tryz.ntmps99
 go_wp2_with fail
 refine hc.mono ?_
 rintro e w1 ⟨rfl,rfl⟩
 clear hc
 by_cases hks:k=s.size
 ·have h2:=H2.out hks
  have HKS:=Lib.hid hks
  have HH:=Lib.hid h2
  have ht:((k:Int)==(s.size:Int))=true:=by rw [beq_iff_eq];omega
  clear h2 hks
  go_wp2
  go_ret2
  refine ⟨?_,Gr.refl _⟩
  rw [HH.out.1,HH.out.2,← zN3 (s:=s) rfl]
  rfl
 ·have h3:=H3.out (by omega)
  have HH:=Lib.hid h3
  have hlt:k<s.size:=by omega
  have ht:((k:Int)==(s.size:Int))=false:=by rw [beq_eq_false_iff_ne];omega
  have i0:(0:Int)≤(k:Int):=by omega
  have i1:(k:Int)≤(s.size:Int):=by omega
  have i2:(k:Int)+1≤(s.size:Int):=by omega
  clear h3 hks
  go_wp2
  go_quiet (fail)
  go_wp2
  go_ret2
  refine ⟨?_,(Below.refl _ _).drewN _⟩
  rw [HH.out.1,HH.out.2]
  have e1:s.extract 0 k=⟨(s.data.toList.take k).toArray⟩:=zN3 (by rw [Lib.extract_data];simp)
  have e2:s.extract (k+1) s.size=⟨(s.data.toList.drop (k+1)).toArray⟩:=zN3 (by
   rw [Lib.extract_data,List.take_of_length_le]
   simp)
  rw [← e1,← e2]
  rfl
section
variable {l:List UInt8} {most:Nat}
end
theorem zq3 {k:Nat} {q:Rat} (h1:Sz k q.num) (h2:Sz k (q.den:Int)):(za3 q).length≤2*k+5:=by
 have a:=zj1 h1
 have b:=zj1 h2
 unfold za3
 split
 ·omega
 ·simp only [List.length_append,List.length_singleton];omega
theorem zg4 {k:Nat} (q:Rat) (h1:Sz k q.num) (h2:Sz k (q.den:Int)) (hk:k≤400000) (w:World):
  Calls Tryz.prog 99 #[.string ⟨(za3 q).toArray⟩] w fun e w'=>e=.returned (.tuple #[.string ⟨(Lib.itoa q.num).toArray⟩,.string ⟨(Lib.itoa (q.den:Int)).toArray⟩])∧Gr w w':=by
 have hl:=zq3 h1 h2
 have:=r2_parts ⟨(za3 q).toArray⟩ w (by show (za3 q).toArray.size≤_;simp;omega)
 have e:(⟨(za3 q).toArray⟩:ByteArray).data.toList=za3 q:=by simp
 rw [e,zP2,yj3] at this
 exact this
theorem zo4 (q:Rat):0<(q.den:Int):=Int.natCast_pos.2 q.den_pos
theorem zB3 (a b:Rat):0<(a.den:Int)*(b.den:Int):=Int.mul_pos (zo4 a) (zo4 b)
theorem rat_neg (a:Rat):Rat.divInt (-a.num) (a.den:Int)=-a:=by
 rw [← Rat.neg_divInt,Rat.num_divInt_den]
theorem yq8 {k:Nat} {a:Rat} (h:Sz k a.num∧Sz k (a.den:Int)):Sz k (-a).num∧Sz k ((-a).den:Int):=by
 rw [Rat.neg_num,Rat.neg_den]
 exact ⟨h.1.neg,h.2⟩
set_option maxRecDepth 100000 in
set_option maxHeartbeats 2000000 in
theorem ys3 (ao:Option Addr) (la ca:Nat) (m x p:Int) (w:World) (hla:la≤900000) (ha:Mag w ao la ca m) (ac:0≤x) (af:x<4294967296) (aj:0≤p) (ap:p<4294967296):
  Calls Tryz.prog 173 #[.slice ao la ca,.int .u32 x,.int .u32 p] w fun e w'=>(∃ go k cap,e=.returned (.slice go k cap)∧Mag w' go k cap (m*x+p)∧k≤la+1)∧Gr w w':=by
 go_enter Tryz.func173,Tryz.ntmps173
 go_wp2_with (at_make;refine zd3 _ rfl _ _ rfl _ _ (la+1) rfl rfl (by omega) (by omega) (by omega) ?_)
 intro w1 hO hB hsz
 go_wp2
 go_loopw [8,19] (fun c i wr=>∃ (k:Nat) (cr:Int) (d:Nat→Int),k≤la∧i=.int .i64 k∧c=.int .u64 cr∧0≤cr∧cr<4294967296∧Hid (hi (m*x+p) k=hi m k*x+cr)∧Below w.heap.size w wr∧
   Own wr w.heap.size (la+1) d∧Hid (∀ j,j<k→d j=dg (m*x+p) j)) (fun _ i _=>la - (intOf i).toNat)
 case atStart=>exact ⟨0,p,_,Nat.zero_le _,rfl,rfl,aj,ap,by simp [Hid,zc7],hB,hO,fun j hj=>by omega⟩
 case round=>
  obtain ⟨k,cr,d,hk,rfl,rfl,ah,ak,hz,hB,hO,hd⟩:=hrel
  by_cases hlt:k<la
  ·obtain ⟨b1,al,rfl,ab⟩:=(ha.row.below hB).at_ (by omega)
   have ad:=ab k hlt
   clear ab
   have d0:=za4 m k
   have d1:=zd4 m k
   have aa:=hO.cell k (by omega)
   have hfree:=hO.free k
   have hs:=zJ3 hz.out ah ak ac af
   have z0:=hs.2.2.2.2.1
   have z1:=hs.2.2.2.2.2
   have z2:dg m k*x≤18446744065119617025:=by
    have:=Int.mul_le_mul (show dg m k≤4294967295 by omega) (show x≤4294967295 by omega) ac (by omega)
    omega
   have HS:=Lib.hid hs
   clear hs
   go_wp2
   have hs:=HS.out
   go_roundw
   case rel=>
    refine ⟨k+1,_,_,by omega,by go_num,rfl,hs.2.2.1,hs.2.2.2.1,hs.2.1,hB.setCell (Nat.le_refl _) _,hO.set (by omega) _,fun j hj=>?_⟩
    by_cases e:j=k
    ·subst e;rw [zb6,hs.1]
    ·rw [za6 _ _ e];exact hd.out j (by omega)
   case measure=>simp [intOf];omega
  ·obtain rfl:k=la:=by omega
   have aa:=hO.cell k (by omega)
   have hfree:=hO.free k
   have ae:0≤m*x+p:=by have:=Int.mul_nonneg ha.nl.nonneg ac;omega
   have htop:hi (m*x+p) (k+1)=0:=by
    have h1:=hz.out
    rw [ha.nl.top,Int.zero_mul] at h1
    rw [zb8];omega
   have hdk:dg (m*x+p) k=cr:=by
    have h1:=hz.out
    rw [ha.nl.top,Int.zero_mul] at h1
    unfold dg;omega
   have HT:=Lib.hid htop
   have HD:=Lib.hid hdk
   clear htop hdk
   go_wp2_with fail
   have ai:=(hO.set (Nat.lt_succ_self k) cr).congr (d':=dg (m*x+p)) (fun j hj=>by
    by_cases e:j=k
    ·subst e;rw [zb6,HD.out]
    ·rw [za6 _ _ e];exact hd.out j (by omega))
   refine (zt4 _ _ _ (m*x+p) _ (by omega) (Nat.le_refl _) ae HT.out ai.row).mono ?_
   rintro e w3 ⟨⟨n,rfl,hm,hn⟩,rfl⟩
   go_wp2
   go_ret
   exact ⟨⟨_,_,_,rfl,hm,hn⟩,hB.setCell (Nat.le_refl _) _⟩
theorem yo3 (l:List UInt8):∀ acc:Nat,l.foldl (fun a c=>a*10+(c.toNat - 48)) acc=acc*10 ^ l.length+zs5 l:=by
 induction l with
 | nil=>intro acc;simp [zs5]
 | cons c l ih=>
  intro acc
  have hv:zs5 (c::l)=(c.toNat - 48)*10 ^ l.length+zs5 l:=by
   show l.foldl _ (0*10+(c.toNat - 48))=_
   rw [ih];simp
  rw [List.foldl_cons,ih,hv,List.length_cons,Nat.pow_succ,Nat.add_mul]
  have:acc*10*10 ^ l.length=acc*(10 ^ l.length*10):=by grind
  omega
theorem zl2 (a b:List UInt8):zs5 (a++b)=zs5 a*10 ^ b.length+zs5 b:=by
 show (a++b).foldl _ 0=_
 rw [List.foldl_append,yo3];rfl
theorem yo4 (l:List UInt8) (h:∀ c ∈ l,48≤c.toNat∧c.toNat≤57):zs5 l<10 ^ l.length:=by
 induction l with
 | nil=>simp [zs5]
 | cons c l ih=>
  have h1:=zl2 [c] l
  have h2:=ih (fun x hx=>h x (by simp [hx]))
  have h3:=h c (by simp)
  have h4:zs5 [c]≤9:=by simp [zs5];omega
  rw [List.singleton_append] at h1
  rw [h1,List.length_cons,Nat.pow_succ]
  have:=Nat.mul_le_mul_right (10 ^ l.length) h4
  omega
theorem parseM:∀ (l:List UInt8) (acc:Nat),(∀ c ∈ l,48≤c.toNat∧c.toNat≤57)→acc*10 ^ l.length+10 ^ l.length≤1000000000→Lib.parseUintM (2 ^ 32 - 1) acc l=.ok (acc*10 ^ l.length+zs5 l)
 | [],acc,_,_=>by simp [Lib.parseUintM,zs5]
 | c::l,acc,h,hb=>by
  have hc:=h c (by simp)
  have hp:0<10 ^ l.length:=Nat.pow_pos (by omega)
  rw [List.length_cons,Nat.pow_succ] at hb
  have h1:(acc+1)*(10 ^ l.length*10)≤1000000000:=by rw [Nat.add_mul];omega
  have h2:(acc+1)*10≤1000000000:=by
   have:(acc+1)*10≤(acc+1)*(10 ^ l.length*10):=Nat.mul_le_mul_left _ (by omega)
   omega
  have e:acc*(10 ^ l.length*10)=acc*10*10 ^ l.length:=by grind
  have h3:(c.toNat - 48)*10 ^ l.length≤9*10 ^ l.length:=Nat.mul_le_mul_right _ (by omega)
  have ih:=parseM l (acc*10+(c.toNat - 48)) (fun x hx=>h x (by simp [hx])) (by rw [Nat.add_mul];omega)
  unfold Lib.parseUintM
  rw [if_pos hc,if_neg (by omega),if_neg (by omega),ih]
  have h5:=zl2 [c] l
  rw [List.singleton_append] at h5
  have h6:zs5 [c]=c.toNat - 48:=by simp [zs5]
  rw [h5,h6,List.length_cons,Nat.pow_succ,Nat.add_mul,e]
  congr 1
  omega
theorem parse32 {l:List UInt8} (h:∀ c ∈ l,48≤c.toNat∧c.toNat≤57) (h0:l≠[]) (h9:l.length≤9):Lib.parseUintB 32 l=.ok (zs5 l):=by
 unfold Lib.parseUintB
 rw [if_neg h0,parseM l 0 h (by
  have:10 ^ l.length≤10 ^ 9:=Nat.pow_le_pow_right (by omega) h9
  omega)]
 simp
theorem zJ4 (R:ByteArray) (h:∀ c ∈ R.data.toList,48≤c.toNat∧c.toNat≤57) (h0:0<R.size) (h9:R.size≤9) (w:World):
  Calls Tryz.prog 172 #[.string R,.int .i64 10,.int .i64 32] w fun e w'=>e=.returned (.tuple #[.int .u64 (zs5 R.data.toList:Int),.nilIface])∧Gr w w':=by
 have hl:R.data.toList.length=R.size:=by simp
 refine (Tryz.strconv_ParseUint_10_at32_ok R (by omega) (zs5 R.data.toList) (parse32 h (fun e=>by rw [e] at hl;simp at hl;omega) (by omega)) w).mono ?_
 rintro e w1 ⟨he,hw⟩
 refine ⟨he,?_⟩
 rcases hw with rfl | rfl
 ·exact Gr.refl _
 ·exact Go.Joins.below_bytesWorld _ _ _ _ (Nat.le_refl _)
theorem nodigit (x:Nat) (w:World):Calls Tryz.prog 171 #[.int .i32 (x:Int)] w fun e w'=>e=.returned (.bool (decide (x<48)||decide (57<x)))∧∃ q,w'=w.drewN q:=by
 by_cases h1:(x:Int)<48
 ·have e1:decide (x<48)=true:=by simp;omega
  have E:=Lib.hid e1
  clear e1
  go_enter Tryz.func171,Tryz.ntmps171
  go_wp2
  go_ret
  exact ⟨by rw [E.out];rfl,0,rfl⟩
 ·have e1:decide (x<48)=false:=by simp;omega
  by_cases h2:57<(x:Int)
  ·have e2:(decide (x<48)||decide (57<x))=true:=by simp;omega
   have E:=Lib.hid e2
   clear e1 e2
   go_enter Tryz.func171,Tryz.ntmps171
   go_wp2
   go_ret
   exact ⟨by rw [E.out];rfl,0,rfl⟩
  ·have e2:(decide (x<48)||decide (57<x))=false:=by simp;omega
   have E:=Lib.hid e2
   clear e1 e2
   go_enter Tryz.func171,Tryz.ntmps171
   go_wp2
   go_ret
   exact ⟨by rw [E.out];rfl,0,rfl⟩
theorem yc2 {D:ByteArray} (h:∀ c ∈ D.data.toList,48≤c.toNat∧c.toNat≤57):∀ (f pos:Nat),Lib.idxFuncFrom (fun x=>decide (x<48)||decide (57<x)) true D f pos=-1
 | 0,_=>rfl
 | f+1,pos=>by
  unfold Lib.idxFuncFrom
  by_cases hp:pos<D.size
  ·have hc:=h D[pos] (List.mem_of_getElem? (zx5 hp))
   rw [if_pos hp,decode_ascii D pos hp (by omega),if_neg (by simp;omega)]
   exact yc2 h f _
  ·rw [if_neg hp]
theorem zV7 (D:ByteArray) (h:∀ c ∈ D.data.toList,48≤c.toNat∧c.toNat≤57) (w:World):
  Calls Tryz.prog 170 #[.string D,.func (.func 171) #[] #[]] w fun e w'=>e=.returned (.bool false)∧Gr w w':=by
 refine (Tryz.strings_ContainsFunc 171 #[] (enters_of Tryz.func171 (by kernel_rfl) rfl) (fun x=>decide (x<48)||decide (57<x)) D w (fun W x _=>nodigit x W)).mono ?_
 rintro e w1 ⟨he,hb⟩
 refine ⟨?_,hb⟩
 rw [he]
 unfold Lib.idxFunc
 rw [yc2 h]
 rfl
theorem yo5 (z:Int) (w:World):Calls Tryz.prog 169 #[.string ⟨(Lib.itoa z).toArray⟩,.string ⟨#[45]⟩] w fun e w'=>
  e=.returned (.tuple #[.string ⟨(Lib.decDigits z.natAbs).toArray⟩,.bool (decide (z<0))])∧w=w':=by
 refine (Tryz.strings_CutPrefix _ _ _).mono ?_
 rintro e w1 ⟨he,rfl⟩
 refine ⟨?_,rfl⟩
 rw [he]
 show Ending.returned (.tuple #[.string ⟨(Lib.trimPrefix (Lib.itoa z) [45]).toArray⟩,.bool (Lib.hasPrefix (Lib.itoa z) [45])])=_
 by_cases h:z<0
 ·have h1:Lib.hasPrefix (Lib.itoa z) [45]=true:=by rw [ze5 h];simp [Lib.hasPrefix]
  rw [Lib.trimPrefix,h1,if_pos rfl,ze5 h,decide_eq_true h];rfl
 ·have h1:Lib.hasPrefix (Lib.itoa z) [45]=false:=by
   rw [zb7 (by omega)]
   rcases hd:Lib.decDigits z.natAbs with _ | ⟨c,l⟩
   ·rfl
   ·have hc:=zp6 z.natAbs c (by rw [hd];simp)
    have hne:¬ (45:UInt8)=c:=fun e=>by rw [← e] at hc;simp at hc
    simp [Lib.hasPrefix,List.isPrefixOf,hne]
  rw [Lib.trimPrefix,h1,if_neg (by decide),zb7 (by omega),decide_eq_false h]
def zM3 (v:Value):Nat:=match v with | .string s=>s.size | _=>0
theorem zz7 (R:ByteArray) (q:Nat):(R.extract 0 q).data.toList=R.data.toList.take q:=by rw [Lib.extract_data];simp
theorem zz8 (R:ByteArray) (q:Nat):(R.extract q R.size).data.toList=R.data.toList.drop q:=by
 rw [Lib.extract_data,List.take_of_length_le];simp
set_option maxRecDepth 100000 in
set_option maxHeartbeats 4000000 in
theorem zV8 {k:Nat} (z:Int) (hz:Sz k z) (hk:k≤60000) (w:World):
  Calls Tryz.prog 143 #[.string ⟨(Lib.itoa z).toArray⟩] w fun e w'=>(∃ x y,e=.returned (.tuple #[.agg #[x,y],.int .i64 0])∧IsInt w' k x y z)∧Gr w w':=by
 obtain ⟨n,hn⟩:∃ n,n=z.natAbs:=⟨_,rfl⟩
 have hnk:n<2 ^ k:=by rw [hn];exact hz
 have hlen:=zg8 k n hnk
 have hit:(Lib.itoa z).length≤k+2:=by
  by_cases h:z<0
  ·rw [ze5 h,← hn];simp;omega
  ·rw [zb7 (by omega),← hn];omega
 obtain ⟨s,hs⟩:∃ s:ByteArray,s=⟨(Lib.itoa z).toArray⟩:=⟨_,rfl⟩
 have hss:s.size≤65536:=by rw [hs];show (Lib.itoa z).toArray.size≤_;simp;omega
 obtain ⟨D,hD⟩:∃ D:ByteArray,D=⟨(Lib.decDigits n).toArray⟩:=⟨_,rfl⟩
 have HD:Hid (D.data.toList=Lib.decDigits n):=by rw [Hid,hD]
 have hDs:D.size=(Lib.decDigits n).length:=by rw [hD];show (Lib.decDigits n).toArray.size=_;simp
 have ay:0<D.size:=by rw [hDs];exact zU4 n
 have au:D.size≤60001:=by omega
 have hc:=yo5 z (w.alloc (.cells #[.bool false,.slice none 0 0] 34))
 rw [← hn,← hD,← hs] at hc
 have hda:∀ c ∈ D.data.toList,48≤c.toNat∧c.toNat≤57:=by rw [HD.out];exact zp6 n
 have hcn:=zV7 D hda
 have hne:(D.toList==[])=false:=by
  rw [beq_eq_false_iff_ne,ByteArray.toList_eq,HD.out];exact zW4 n
 have ar:(D[0].toNat:Int)=48→D.size=1∧n=0:=by
  intro h
  rcases Nat.eq_zero_or_pos n with e | e
  ·rw [hDs,e];exact ⟨by rw [dec_zero];rfl,rfl⟩
  ·obtain ⟨c,aC,aI,_⟩:=ye7 e
   have:=zg6 HD.out ay aC
   rw [this] at h
   omega
 have HN:=Lib.hid hn
 have az:=Lib.hid ar
 have HDa:=Lib.hid hda
 have HDs:=Lib.hid hDs
 have HS:=Lib.hid hs
 rw [← hs]
 clear hn ar hda hDs hD hit hs
 go_enter Tryz.func143,Tryz.ntmps143
 go_wp2_with fail
 (with_reducible refine hc.mono ?_)
 rintro e w1 ⟨rfl,rfl⟩
 clear hc
 go_wp2_with fail
 (with_reducible refine (hcn _).mono ?_)
 rintro e w2 ⟨rfl,g2⟩
 clear hcn
 by_cases h48:(D[0].toNat:Int)=48
 ·have hzz:=az.out h48
  have aK:¬ (1:Int)<(D.size:Int):=by omega
  have aJ:¬ z<0:=by have:=HN.out;omega
  have aq:((D[0].toNat:Int)==48)=true:=by simpa using h48
  clear h48 hzz
  go_wp2
  go_loopw [4,6] (fun r m wr=>∃ (R:ByteArray) (V:Nat) (mo:Option Addr) (ml mc:Nat),r=.string R∧m=.slice mo ml mc∧ml≤k∧R.size≤60001∧Hid (Mag wr mo ml mc (V:Int)∧(∀ c ∈ R.data.toList,48≤c.toNat∧c.toNat≤57)∧V*10 ^ R.size+zs5 R.data.toList=n)∧Gr (w.alloc (.cells #[.bool false,.slice none 0 0] 34)) wr) (fun r _ _=>zM3 r)
  case atStart=>exact ⟨D,0,none,0,0,rfl,rfl,by omega,au,⟨⟨Nat.le_refl _,NL.zero,Row.nil _ _ _⟩,HDa.out,by rw [HD.out,zB8];simp⟩,g2⟩
  case round=>
   obtain ⟨R,V,mo,ml,mc,rfl,rfl,hml,aG,hh,hG⟩:=hrel
   by_cases hp:0<R.size
   ·obtain ⟨q,hq⟩:∃ q:Nat,q=(R.size - 1) % 9+1:=⟨_,rfl⟩
    have ah:q≤9:=by omega
    have aA:0<q:=by omega
    have hqR:q≤R.size:=by omega
    have hqe:((R.size:Int) - 1) % 9+1=(q:Int):=by omega
    have HQ:=Lib.hid hq
    clear hq
    go_wp2
    obtain ⟨wo,hwo⟩:∃ wo:World,wo=wr:=⟨_,rfl⟩
    subst hwo
    go_loopw [8,48] (fun b i wq=>∃ (j:Nat) (x:Int),b=.int .u32 x∧i=.int .i64 j∧j≤q∧1≤x∧x≤1000000000∧Hid (x=10 ^ j)∧wq=wo) (fun _ i _=>q - (intOf i).toNat)
    case atStart=>exact ⟨0,1,rfl,rfl,by omega,by omega,by omega,rfl,rfl⟩
    case round=>
     obtain ⟨j,x,rfl,rfl,hj,ax,aw,hx,rfl⟩:=hrel
     by_cases hlt:j<q
     ·have av:x≤100000000:=by
       rw [hx.out]
       have h8:(10:Nat) ^ j≤100000000:=Nat.le_trans (Nat.pow_le_pow_right (by omega) (show j≤8 by omega)) (by decide)
       have h9:=Int.ofNat_le.2 h8
       rw [Int.natCast_pow] at h9
       exact h9
      go_wp2
      go_roundw
      case rel=>exact ⟨j+1,x*10,rfl,by go_num,by omega,by omega,by omega,by rw [Hid,hx.out,Int.pow_succ],by first | rfl | trivial⟩
      case measure=>simp [intOf];omega
     ·obtain rfl:j=q:=by omega
      obtain ⟨T,hT⟩:∃ T,R.extract 0 j=T:=⟨_,rfl⟩
      obtain ⟨U,hU⟩:∃ U,R.extract j R.size=U:=⟨_,rfl⟩
      have hTl:T.data.toList=R.data.toList.take j:=by rw [← hT,zz7]
      have hUl:U.data.toList=R.data.toList.drop j:=by rw [← hU,zz8]
      have hRl:R.data.toList.length=R.size:=by simp
      have hTs:T.size=j:=by
       have h1:=congrArg List.length hTl
       rw [List.length_take,hRl] at h1
       have h2:T.data.toList.length=T.size:=by simp
       omega
      have hUs:U.size=R.size - j:=by
       have h1:=congrArg List.length hUl
       rw [List.length_drop,hRl] at h1
       have h2:U.data.toList.length=U.size:=by simp
       omega
      obtain ⟨hm,hda,hval⟩:=hh.out
      have hTd:∀ c ∈ T.data.toList,48≤c.toNat∧c.toNat≤57:=fun c hc=>hda c (by rw [hTl] at hc;exact List.mem_of_mem_take hc)
      have hUd:∀ c ∈ U.data.toList,48≤c.toNat∧c.toNat≤57:=fun c hc=>hda c (by rw [hUl] at hc;exact List.mem_of_mem_drop hc)
      obtain ⟨u,hu⟩:∃ u,u=zs5 T.data.toList:=⟨_,rfl⟩
      have aB:u<1000000000:=by
       have h1:=yo4 _ hTd
       have h2:T.data.toList.length=T.size:=by simp
       rw [h2,hTs] at h1
       have:(10:Nat) ^ j≤10 ^ 9:=Nat.pow_le_pow_right (by omega) ah
       omega
      have aa:(V*10 ^ j+u)*10 ^ U.size+zs5 U.data.toList=n:=by
       have h1:=zl2 (R.data.toList.take j) (R.data.toList.drop j)
       rw [List.take_append_drop,← hTl,← hUl] at h1
       have h2:U.data.toList.length=U.size:=by simp
       rw [h1,h2,← hu,show R.size=j+U.size by omega,Nat.pow_add] at hval
       rw [← hval];grind
      have hVk:V*10 ^ j+u<2 ^ k:=by
       have h1:V*10 ^ j+u≤(V*10 ^ j+u)*10 ^ U.size:=Nat.le_mul_of_pos_right _ (Nat.pow_pos (by omega))
       omega
      have hpu:=zJ4 T hTd (by omega) (by omega)
      rw [← hu] at hpu
      have ak:=Lib.hid aa
      have HVk:=Lib.hid hVk
      have HUd:=Lib.hid hUd
      have HX:=hx
      have ap:T.size≤9:=by omega
      have aj:U.size<R.size:=by omega
      have ad:U.size≤60001:=by omega
      clear hTl hUl hRl hTd hUd hda hval aa hVk hu hTs hUs hqe
      have aH:(u:Int)<1000000000:=by omega
      go_wp2_with fail
      (with_reducible refine (hpu _).mono ?_)
      rintro e w5 ⟨rfl,g5⟩
      clear hpu
      go_wp2_with fail
      (with_reducible refine (ys3 mo ml mc (V:Int) x (u:Int) _ (by omega) (hm.kp g5.kp) (by omega) (by omega) (by omega) (by omega)).mono ?_)
      rintro e w6 ⟨⟨go,k6,c6,rfl,ac,aF⟩,g6⟩
      have af:Mag w6 go k6 c6 ((V*10 ^ j+u:Nat):Int):=by
       rw [HX.out] at ac
       have e:((V*10 ^ j+u:Nat):Int)=(V:Int)*10 ^ j+(u:Int):=by push_cast;rfl
       rw [e];exact ac
      have ai:k6≤k:=af.nl.len_sz (show Sz k _ by unfold Sz;rw [Int.natAbs_natCast];exact HVk.out)
      clear ac
      go_wp2
      go_roundw
      case rel=>exact ⟨U,V*10 ^ j+u,go,k6,c6,rfl,rfl,ai,ad,⟨af,HUd.out,ak.out⟩,(hG.trans g5).trans g6⟩
      case measure=>simp [zM3];omega
   ·have ab:R.size=0:=by omega
    obtain ⟨hm,hda,hval⟩:=hh.out
    have hVn:V=n:=by
     have h2:R.data.toList.length=R.size:=by simp
     have h1:R.data.toList=[]:=List.length_eq_zero_iff.1 (by rw [h2];exact ab)
     rw [h1,ab] at hval
     simpa [zs5] using hval
    rw [hVn] at hm
    have aD:=Lib.hid ab
    clear ab hda hval hh hVn
    have p2:=Gr.heap hG (heap_alloc_new w (.cells #[.bool false,.slice none 0 0] 34))
    go_wp2_with fail
    (with_reducible refine (zh9 (decide (z<0)) mo ml mc (n:Int) _ (by omega) hm.cap hm.nl.nonneg hm.nl.top hm.row).mono ?_)
    rintro e w5 ⟨⟨k5,rfl,ae,aE⟩,g5⟩
    have p3:=Gr.heap g5 p2
    have d0:=zb4 p3 0
    have d1:=zb4 p3 1
    have d2:=zk7 p3
    have al:Gr w w5:=(Gr.alloc w _).trans (hG.trans g5)
    have hint:=IsInt.mk' (z:=z) (s:=decide (z<0)) (k:=k) (ae.gr g5) (by rw [HN.out]) (fun _=>rfl) hz
    obtain ⟨bb,hbb⟩:∃ bb,bb=(decide (z<0)&&decide (0<k5)):=⟨_,rfl⟩
    rw [← hbb] at hint ⊢
    clear hbb hm ae p2
    go_wp2
    have p4:=za9 (i:=1) (.slice mo k5 mc) (za9 (i:=0) (.bool bb) p3)
    have hst:=(St.setCell w5 w.heap.size 0 (.bool bb)).trans (St.setCell _ w.heap.size 1 (.slice mo k5 mc))
    exact bodyPost_ret (v:=.tuple #[.agg #[.bool bb,.slice mo k5 mc],.int .i64 0]) (zc0 _ _ _ rfl rfl p4 (by kernel_rfl) rfl) rfl ⟨⟨_,_,rfl,hint.kp (hst.kp p3 (by decide))⟩,hst.gr al (Nat.le_refl _)⟩
 ·have aq:((D[0].toNat:Int)==48)=false:=by simpa using h48
  clear h48
  go_wp2
  go_loopw [4,6] (fun r m wr=>∃ (R:ByteArray) (V:Nat) (mo:Option Addr) (ml mc:Nat),r=.string R∧m=.slice mo ml mc∧ml≤k∧R.size≤60001∧Hid (Mag wr mo ml mc (V:Int)∧(∀ c ∈ R.data.toList,48≤c.toNat∧c.toNat≤57)∧V*10 ^ R.size+zs5 R.data.toList=n)∧Gr (w.alloc (.cells #[.bool false,.slice none 0 0] 34)) wr) (fun r _ _=>zM3 r)
  case atStart=>exact ⟨D,0,none,0,0,rfl,rfl,by omega,au,⟨⟨Nat.le_refl _,NL.zero,Row.nil _ _ _⟩,HDa.out,by rw [HD.out,zB8];simp⟩,g2⟩
  case round=>
   obtain ⟨R,V,mo,ml,mc,rfl,rfl,hml,aG,hh,hG⟩:=hrel
   by_cases hp:0<R.size
   ·obtain ⟨q,hq⟩:∃ q:Nat,q=(R.size - 1) % 9+1:=⟨_,rfl⟩
    have ah:q≤9:=by omega
    have aA:0<q:=by omega
    have hqR:q≤R.size:=by omega
    have hqe:((R.size:Int) - 1) % 9+1=(q:Int):=by omega
    have HQ:=Lib.hid hq
    clear hq
    go_wp2
    obtain ⟨wo,hwo⟩:∃ wo:World,wo=wr:=⟨_,rfl⟩
    subst hwo
    go_loopw [8,48] (fun b i wq=>∃ (j:Nat) (x:Int),b=.int .u32 x∧i=.int .i64 j∧j≤q∧1≤x∧x≤1000000000∧Hid (x=10 ^ j)∧wq=wo) (fun _ i _=>q - (intOf i).toNat)
    case atStart=>exact ⟨0,1,rfl,rfl,by omega,by omega,by omega,rfl,rfl⟩
    case round=>
     obtain ⟨j,x,rfl,rfl,hj,ax,aw,hx,rfl⟩:=hrel
     by_cases hlt:j<q
     ·have av:x≤100000000:=by
       rw [hx.out]
       have h8:(10:Nat) ^ j≤100000000:=Nat.le_trans (Nat.pow_le_pow_right (by omega) (show j≤8 by omega)) (by decide)
       have h9:=Int.ofNat_le.2 h8
       rw [Int.natCast_pow] at h9
       exact h9
      go_wp2
      go_roundw
      case rel=>exact ⟨j+1,x*10,rfl,by go_num,by omega,by omega,by omega,by rw [Hid,hx.out,Int.pow_succ],by first | rfl | trivial⟩
      case measure=>simp [intOf];omega
     ·obtain rfl:j=q:=by omega
      obtain ⟨T,hT⟩:∃ T,R.extract 0 j=T:=⟨_,rfl⟩
      obtain ⟨U,hU⟩:∃ U,R.extract j R.size=U:=⟨_,rfl⟩
      have hTl:T.data.toList=R.data.toList.take j:=by rw [← hT,zz7]
      have hUl:U.data.toList=R.data.toList.drop j:=by rw [← hU,zz8]
      have hRl:R.data.toList.length=R.size:=by simp
      have hTs:T.size=j:=by
       have h1:=congrArg List.length hTl
       rw [List.length_take,hRl] at h1
       have h2:T.data.toList.length=T.size:=by simp
       omega
      have hUs:U.size=R.size - j:=by
       have h1:=congrArg List.length hUl
       rw [List.length_drop,hRl] at h1
       have h2:U.data.toList.length=U.size:=by simp
       omega
      obtain ⟨hm,hda,hval⟩:=hh.out
      have hTd:∀ c ∈ T.data.toList,48≤c.toNat∧c.toNat≤57:=fun c hc=>hda c (by rw [hTl] at hc;exact List.mem_of_mem_take hc)
      have hUd:∀ c ∈ U.data.toList,48≤c.toNat∧c.toNat≤57:=fun c hc=>hda c (by rw [hUl] at hc;exact List.mem_of_mem_drop hc)
      obtain ⟨u,hu⟩:∃ u,u=zs5 T.data.toList:=⟨_,rfl⟩
      have aB:u<1000000000:=by
       have h1:=yo4 _ hTd
       have h2:T.data.toList.length=T.size:=by simp
       rw [h2,hTs] at h1
       have:(10:Nat) ^ j≤10 ^ 9:=Nat.pow_le_pow_right (by omega) ah
       omega
      have aa:(V*10 ^ j+u)*10 ^ U.size+zs5 U.data.toList=n:=by
       have h1:=zl2 (R.data.toList.take j) (R.data.toList.drop j)
       rw [List.take_append_drop,← hTl,← hUl] at h1
       have h2:U.data.toList.length=U.size:=by simp
       rw [h1,h2,← hu,show R.size=j+U.size by omega,Nat.pow_add] at hval
       rw [← hval];grind
      have hVk:V*10 ^ j+u<2 ^ k:=by
       have h1:V*10 ^ j+u≤(V*10 ^ j+u)*10 ^ U.size:=Nat.le_mul_of_pos_right _ (Nat.pow_pos (by omega))
       omega
      have hpu:=zJ4 T hTd (by omega) (by omega)
      rw [← hu] at hpu
      have ak:=Lib.hid aa
      have HVk:=Lib.hid hVk
      have HUd:=Lib.hid hUd
      have HX:=hx
      have ap:T.size≤9:=by omega
      have aj:U.size<R.size:=by omega
      have ad:U.size≤60001:=by omega
      clear hTl hUl hRl hTd hUd hda hval aa hVk hu hTs hUs hqe
      have aH:(u:Int)<1000000000:=by omega
      go_wp2_with fail
      (with_reducible refine (hpu _).mono ?_)
      rintro e w5 ⟨rfl,g5⟩
      clear hpu
      go_wp2_with fail
      (with_reducible refine (ys3 mo ml mc (V:Int) x (u:Int) _ (by omega) (hm.kp g5.kp) (by omega) (by omega) (by omega) (by omega)).mono ?_)
      rintro e w6 ⟨⟨go,k6,c6,rfl,ac,aF⟩,g6⟩
      have af:Mag w6 go k6 c6 ((V*10 ^ j+u:Nat):Int):=by
       rw [HX.out] at ac
       have e:((V*10 ^ j+u:Nat):Int)=(V:Int)*10 ^ j+(u:Int):=by push_cast;rfl
       rw [e];exact ac
      have ai:k6≤k:=af.nl.len_sz (show Sz k _ by unfold Sz;rw [Int.natAbs_natCast];exact HVk.out)
      clear ac
      go_wp2
      go_roundw
      case rel=>exact ⟨U,V*10 ^ j+u,go,k6,c6,rfl,rfl,ai,ad,⟨af,HUd.out,ak.out⟩,(hG.trans g5).trans g6⟩
      case measure=>simp [zM3];omega
   ·have ab:R.size=0:=by omega
    obtain ⟨hm,hda,hval⟩:=hh.out
    have hVn:V=n:=by
     have h2:R.data.toList.length=R.size:=by simp
     have h1:R.data.toList=[]:=List.length_eq_zero_iff.1 (by rw [h2];exact ab)
     rw [h1,ab] at hval
     simpa [zs5] using hval
    rw [hVn] at hm
    have aD:=Lib.hid ab
    clear ab hda hval hh hVn
    have p2:=Gr.heap hG (heap_alloc_new w (.cells #[.bool false,.slice none 0 0] 34))
    go_wp2_with fail
    (with_reducible refine (zh9 (decide (z<0)) mo ml mc (n:Int) _ (by omega) hm.cap hm.nl.nonneg hm.nl.top hm.row).mono ?_)
    rintro e w5 ⟨⟨k5,rfl,ae,aE⟩,g5⟩
    have p3:=Gr.heap g5 p2
    have d0:=zb4 p3 0
    have d1:=zb4 p3 1
    have d2:=zk7 p3
    have al:Gr w w5:=(Gr.alloc w _).trans (hG.trans g5)
    have hint:=IsInt.mk' (z:=z) (s:=decide (z<0)) (k:=k) (ae.gr g5) (by rw [HN.out]) (fun _=>rfl) hz
    obtain ⟨bb,hbb⟩:∃ bb,bb=(decide (z<0)&&decide (0<k5)):=⟨_,rfl⟩
    rw [← hbb] at hint ⊢
    clear hbb hm ae p2
    go_wp2
    have p4:=za9 (i:=1) (.slice mo k5 mc) (za9 (i:=0) (.bool bb) p3)
    have hst:=(St.setCell w5 w.heap.size 0 (.bool bb)).trans (St.setCell _ w.heap.size 1 (.slice mo k5 mc))
    exact bodyPost_ret (v:=.tuple #[.agg #[.bool bb,.slice mo k5 mc],.int .i64 0]) (zc0 _ _ _ rfl rfl p4 (by kernel_rfl) rfl) rfl ⟨⟨_,_,rfl,hint.kp (hst.kp p3 (by decide))⟩,hst.gr al (Nat.le_refl _)⟩
set_option maxRecDepth 100000 in
set_option maxHeartbeats 4000000 in
theorem zt1 {k m:Nat} (x y:Int) (hx:Sz k x) (hy:Sz m y) (_hy0:0<y) (_hk:k+m≤60000) (w:World):
    Calls Tryz.prog 100 #[(.string ⟨(Lib.itoa (x):List UInt8).toArray⟩),(.string ⟨(Lib.itoa (y):List UInt8).toArray⟩)] w fun e w'=>e=.returned (.string ⟨(za3 (Rat.divInt x y)).toArray⟩)∧Gr w w':=by
 have hs:decide (sgn y<0)=false:=by rw [zF0];simp;omega
 have h0:(0:Int)<y:=by omega
 have hgp:=(zh1 (N:=x) h0).2.2
 have aq:=zj1 (zK0 (N:=x) hx hgp)
 have ar:=zj1 (zK0 (N:=y) hy hgp)
 go_enter Tryz.func100,Tryz.ntmps100
 have hB:=Gr.refl w
 refine wp_seq_k (fun K1 k1=>?_)
 refine rg [0] ?_
 refine sv 4 (.string ⟨([]:List UInt8).toArray⟩) ?_
 refine za0 ?_
 refine k1 _ _ ?_
 try clear k1 K1
 refine wp_seq_k (fun K2 k2=>?_)
 refine wp_seq_k (fun K3 k3=>?_)
 refine rg [0,1,2] ?_
 refine sv 6 (.string ⟨(Lib.itoa (y):List UInt8).toArray⟩) ?_
 refine se ?_
 refine ec 7 (ze6 (y) _) ?_
 rintro e4 w4 ⟨rfl,g4⟩
 refine ⟨_,rfl,?_⟩
 replace hB:=hB.trans g4
 simp only [p3,p4]
 refine sw 8 (.bool false) rfl (RunV.bool (x:=decide (sgn (y)<(0:Int))) (rvk (by kernel_rfl)) hs) ?_
 refine za0 ?_
 refine k3 _ _ ?_
 try clear k3 K3
 refine wp_cond_false rfl ?_
 refine wp_skip ?_
 refine k2 _ _ ?_
 try clear k2 K2
 refine wp_seq_k (fun K5 k5=>?_)
 refine rg [0,1,2,3] ?_
 refine sv 13 (.string ⟨(Lib.itoa (x):List UInt8).toArray⟩) ?_
 refine sv 14 (.string ⟨(Lib.itoa (y):List UInt8).toArray⟩) ?_
 refine se ?_
 refine ec 15 (r1_gcd (x) (y) hx hy (by omega) _) ?_
 rintro e6 w6 ⟨rfl,g6⟩
 refine ⟨_,rfl,?_⟩
 replace hB:=hB.trans g6
 simp only [p3,p4]
 refine sv 5 (.string ⟨(Lib.itoa ((Int.gcd (x) (y):Int)):List UInt8).toArray⟩) ?_
 refine za0 ?_
 refine k5 _ _ ?_
 try clear k5 K5
 refine wp_seq_k (fun K7 k7=>?_)
 refine rg [0,1,2,3,4,5,6] ?_
 refine sv 17 (.string ⟨(Lib.itoa (x):List UInt8).toArray⟩) ?_
 refine sv 18 (.string ⟨(Lib.itoa ((Int.gcd (x) (y):Int)):List UInt8).toArray⟩) ?_
 refine se ?_
 refine ec 19 (zo3 (x) ((Int.gcd (x) (y):Int)) hx (zN2 hx hy) hgp (by omega) _) ?_
 rintro e8 w8 ⟨rfl,g8⟩
 refine ⟨_,rfl,?_⟩
 replace hB:=hB.trans g8
 simp only [p3,p4]
 refine sv 16 (.tuple #[(.string ⟨(Lib.itoa (x/(Int.gcd (x) (y):Int)):List UInt8).toArray⟩),(.string ⟨(Lib.itoa (x % (Int.gcd (x) (y):Int)):List UInt8).toArray⟩)]) ?_
 refine sv 20 (.string ⟨(Lib.itoa (x/(Int.gcd (x) (y):Int)):List UInt8).toArray⟩) ?_
 refine sv 21 (.string ⟨(Lib.itoa (x % (Int.gcd (x) (y):Int)):List UInt8).toArray⟩) ?_
 refine sv 0 (.string ⟨(Lib.itoa (x/(Int.gcd (x) (y):Int)):List UInt8).toArray⟩) ?_
 refine za0 ?_
 refine k7 _ _ ?_
 try clear k7 K7
 refine wp_seq_k (fun K9 k9=>?_)
 refine rg [0,1,2,3,4,5,6] ?_
 refine sv 23 (.string ⟨(Lib.itoa (y):List UInt8).toArray⟩) ?_
 refine sv 24 (.string ⟨(Lib.itoa ((Int.gcd (x) (y):Int)):List UInt8).toArray⟩) ?_
 refine se ?_
 refine ec 25 (zo3 (y) ((Int.gcd (x) (y):Int)) hy (zN2 hx hy) hgp (by omega) _) ?_
 rintro al ap ⟨rfl,ai⟩
 refine ⟨_,rfl,?_⟩
 replace hB:=hB.trans ai
 simp only [p3,p4]
 refine sv 22 (.tuple #[(.string ⟨(Lib.itoa (y/(Int.gcd (x) (y):Int)):List UInt8).toArray⟩),(.string ⟨(Lib.itoa (y % (Int.gcd (x) (y):Int)):List UInt8).toArray⟩)]) ?_
 refine sv 26 (.string ⟨(Lib.itoa (y/(Int.gcd (x) (y):Int)):List UInt8).toArray⟩) ?_
 refine sv 27 (.string ⟨(Lib.itoa (y % (Int.gcd (x) (y):Int)):List UInt8).toArray⟩) ?_
 refine sv 1 (.string ⟨(Lib.itoa (y/(Int.gcd (x) (y):Int)):List UInt8).toArray⟩) ?_
 refine za0 ?_
 refine k9 _ _ ?_
 try clear k9 K9
 refine wp_seq_k (fun aj ab=>?_)
 refine wp_seq_k (fun af ac=>?_)
 refine rg [0,1] ?_
 refine sv 28 (.string ⟨(Lib.itoa (y/(Int.gcd (x) (y):Int)):List UInt8).toArray⟩) ?_
 refine sw 29 (.bool (((Lib.itoa (y/(Int.gcd (x) (y):Int)))==([49]:List UInt8)))) rfl (yd2 9 9 _ _ (Lib.itoa (y/(Int.gcd (x) (y):Int))) ([49]) rfl rfl rfl) ?_
 refine za0 ?_
 refine ac _ _ ?_
 try clear ac af
 refine wp_cond_split (t:=((Lib.itoa (y/(Int.gcd (x) (y):Int)))==([49]:List UInt8))) rfl (fun aa=>?_) (fun aa=>?_)
 ·refine wp_seq_k (fun ah ad=>?_)
  refine rg [0,1] ?_
  refine sv 30 (.string ⟨(Lib.itoa (x/(Int.gcd (x) (y):Int)):List UInt8).toArray⟩) ?_
  refine sv 4 (.string ⟨(Lib.itoa (x/(Int.gcd (x) (y):Int)):List UInt8).toArray⟩) ?_
  refine za0 ?_
  refine ad _ _ ?_
  try clear ad ah
  refine wp_ret ?_
  simp only [Exit.then]
  refine bodyPost_ret (v:=(.string ⟨(Lib.itoa (x/(Int.gcd (x) (y):Int)):List UInt8).toArray⟩)) (za7 rfl rfl) rfl ⟨?_,hB⟩
  exact (by rw [text_w h0 aa])
 ·refine wp_skip ?_
  refine ab _ _ ?_
  try clear ab aj
  refine wp_seq_k (fun ak ae=>?_)
  refine rg [0,1,2,3,4] ?_
  refine sv 31 (.string ⟨(Lib.itoa (x/(Int.gcd (x) (y):Int)):List UInt8).toArray⟩) ?_
  refine sw 32 (.string ⟨((Lib.itoa (x/(Int.gcd (x) (y):Int)))++([47]):List UInt8).toArray⟩) rfl (zz4 9 9 _ _ (Lib.itoa (x/(Int.gcd (x) (y):Int))) ([47]) rfl rfl rfl (by simp only [List.length_cons,List.length_nil];omega)) ?_
  refine sv 33 (.string ⟨(Lib.itoa (y/(Int.gcd (x) (y):Int)):List UInt8).toArray⟩) ?_
  refine sw 34 (.string ⟨(((Lib.itoa (x/(Int.gcd (x) (y):Int)))++([47]))++(Lib.itoa (y/(Int.gcd (x) (y):Int))):List UInt8).toArray⟩) rfl (zz4 9 9 _ _ ((Lib.itoa (x/(Int.gcd (x) (y):Int)))++([47])) (Lib.itoa (y/(Int.gcd (x) (y):Int))) rfl rfl rfl (by simp only [List.length_append,List.length_cons,List.length_nil];omega)) ?_
  refine sv 4 (.string ⟨(((Lib.itoa (x/(Int.gcd (x) (y):Int)))++([47]))++(Lib.itoa (y/(Int.gcd (x) (y):Int))):List UInt8).toArray⟩) ?_
  refine za0 ?_
  refine ae _ _ ?_
  try clear ae ak
  refine wp_ret ?_
  refine bodyPost_ret (v:=(.string ⟨(((Lib.itoa (x/(Int.gcd (x) (y):Int)))++([47]))++(Lib.itoa (y/(Int.gcd (x) (y):Int))):List UInt8).toArray⟩)) (za7 rfl rfl) rfl ⟨?_,hB⟩
  exact (by rw [text_f h0 aa])

set_option maxRecDepth 100000 in
set_option maxHeartbeats 4000000 in
theorem ym6 {k m:Nat} (x y:Int) (hx:Sz k x) (hy:Sz m y) (_hy0:y<0) (_hk:k+m≤60000) (w:World):
    Calls Tryz.prog 100 #[(.string ⟨(Lib.itoa (x):List UInt8).toArray⟩),(.string ⟨(Lib.itoa (y):List UInt8).toArray⟩)] w fun e w'=>e=.returned (.string ⟨(za3 (Rat.divInt x y)).toArray⟩)∧Gr w w':=by
 have hs:decide (sgn y<0)=true:=by rw [zF0];simp;omega
 have h0:(0:Int)< -y:=by omega
 have hgp:=(zh1 (N:=-x) h0).2.2
 have av:=zj1 (zK0 (N:=-x) hx.neg hgp)
 have ax:=zj1 (zK0 (N:=-y) hy.neg hgp)
 go_enter Tryz.func100,Tryz.ntmps100
 have hB:=Gr.refl w
 refine wp_seq_k (fun K1 k1=>?_)
 refine rg [0] ?_
 refine sv 4 (.string ⟨([]:List UInt8).toArray⟩) ?_
 refine za0 ?_
 refine k1 _ _ ?_
 try clear k1 K1
 refine wp_seq_k (fun K2 k2=>?_)
 refine wp_seq_k (fun K3 k3=>?_)
 refine rg [0,1,2] ?_
 refine sv 6 (.string ⟨(Lib.itoa (y):List UInt8).toArray⟩) ?_
 refine se ?_
 refine ec 7 (ze6 (y) _) ?_
 rintro e4 w4 ⟨rfl,g4⟩
 refine ⟨_,rfl,?_⟩
 replace hB:=hB.trans g4
 simp only [p3,p4]
 refine sw 8 (.bool true) rfl (RunV.bool (x:=decide (sgn (y)<(0:Int))) (rvk (by kernel_rfl)) hs) ?_
 refine za0 ?_
 refine k3 _ _ ?_
 try clear k3 K3
 refine wp_cond_true rfl ?_
 refine rg [0,1,2,3,4,5] ?_
 refine sv 9 (.string ⟨(Lib.itoa (x):List UInt8).toArray⟩) ?_
 refine se ?_
 refine ec 10 (ya4 (x) hx (by omega) _) ?_
 rintro e5 w5 ⟨rfl,g5⟩
 refine ⟨_,rfl,?_⟩
 replace hB:=hB.trans g5
 simp only [p3,p4]
 refine sv 11 (.string ⟨(Lib.itoa (y):List UInt8).toArray⟩) ?_
 refine se ?_
 refine ec 12 (ya4 (y) hy (by omega) _) ?_
 rintro e6 w6 ⟨rfl,g6⟩
 refine ⟨_,rfl,?_⟩
 replace hB:=hB.trans g6
 simp only [p3,p4]
 refine sv 0 (.string ⟨(Lib.itoa (-x):List UInt8).toArray⟩) ?_
 refine sv 1 (.string ⟨(Lib.itoa (-y):List UInt8).toArray⟩) ?_
 refine za0 ?_
 refine k2 _ _ ?_
 try clear k2 K2
 refine wp_seq_k (fun K7 k7=>?_)
 refine rg [0,1,2,3] ?_
 refine sv 13 (.string ⟨(Lib.itoa (-x):List UInt8).toArray⟩) ?_
 refine sv 14 (.string ⟨(Lib.itoa (-y):List UInt8).toArray⟩) ?_
 refine se ?_
 refine ec 15 (r1_gcd (-x) (-y) hx.neg hy.neg (by omega) _) ?_
 rintro e8 w8 ⟨rfl,g8⟩
 refine ⟨_,rfl,?_⟩
 replace hB:=hB.trans g8
 simp only [p3,p4]
 refine sv 5 (.string ⟨(Lib.itoa ((Int.gcd (-x) (-y):Int)):List UInt8).toArray⟩) ?_
 refine za0 ?_
 refine k7 _ _ ?_
 try clear k7 K7
 refine wp_seq_k (fun K9 k9=>?_)
 refine rg [0,1,2,3,4,5,6] ?_
 refine sv 17 (.string ⟨(Lib.itoa (-x):List UInt8).toArray⟩) ?_
 refine sv 18 (.string ⟨(Lib.itoa ((Int.gcd (-x) (-y):Int)):List UInt8).toArray⟩) ?_
 refine se ?_
 refine ec 19 (zo3 (-x) ((Int.gcd (-x) (-y):Int)) hx.neg (zN2 hx.neg hy.neg) hgp (by omega) _) ?_
 rintro ar au ⟨rfl,ai⟩
 refine ⟨_,rfl,?_⟩
 replace hB:=hB.trans ai
 simp only [p3,p4]
 refine sv 16 (.tuple #[(.string ⟨(Lib.itoa ((-x)/(Int.gcd (-x) (-y):Int)):List UInt8).toArray⟩),(.string ⟨(Lib.itoa ((-x) % (Int.gcd (-x) (-y):Int)):List UInt8).toArray⟩)]) ?_
 refine sv 20 (.string ⟨(Lib.itoa ((-x)/(Int.gcd (-x) (-y):Int)):List UInt8).toArray⟩) ?_
 refine sv 21 (.string ⟨(Lib.itoa ((-x) % (Int.gcd (-x) (-y):Int)):List UInt8).toArray⟩) ?_
 refine sv 0 (.string ⟨(Lib.itoa ((-x)/(Int.gcd (-x) (-y):Int)):List UInt8).toArray⟩) ?_
 refine za0 ?_
 refine k9 _ _ ?_
 try clear k9 K9
 refine wp_seq_k (fun ak ab=>?_)
 refine rg [0,1,2,3,4,5,6] ?_
 refine sv 23 (.string ⟨(Lib.itoa (-y):List UInt8).toArray⟩) ?_
 refine sv 24 (.string ⟨(Lib.itoa ((Int.gcd (-x) (-y):Int)):List UInt8).toArray⟩) ?_
 refine se ?_
 refine ec 25 (zo3 (-y) ((Int.gcd (-x) (-y):Int)) hy.neg (zN2 hx.neg hy.neg) hgp (by omega) _) ?_
 rintro e12 aw ⟨rfl,aj⟩
 refine ⟨_,rfl,?_⟩
 replace hB:=hB.trans aj
 simp only [p3,p4]
 refine sv 22 (.tuple #[(.string ⟨(Lib.itoa ((-y)/(Int.gcd (-x) (-y):Int)):List UInt8).toArray⟩),(.string ⟨(Lib.itoa ((-y) % (Int.gcd (-x) (-y):Int)):List UInt8).toArray⟩)]) ?_
 refine sv 26 (.string ⟨(Lib.itoa ((-y)/(Int.gcd (-x) (-y):Int)):List UInt8).toArray⟩) ?_
 refine sv 27 (.string ⟨(Lib.itoa ((-y) % (Int.gcd (-x) (-y):Int)):List UInt8).toArray⟩) ?_
 refine sv 1 (.string ⟨(Lib.itoa ((-y)/(Int.gcd (-x) (-y):Int)):List UInt8).toArray⟩) ?_
 refine za0 ?_
 refine ab _ _ ?_
 try clear ab ak
 refine wp_seq_k (fun aq ae=>?_)
 refine wp_seq_k (fun ah ad=>?_)
 refine rg [0,1] ?_
 refine sv 28 (.string ⟨(Lib.itoa ((-y)/(Int.gcd (-x) (-y):Int)):List UInt8).toArray⟩) ?_
 refine sw 29 (.bool (((Lib.itoa ((-y)/(Int.gcd (-x) (-y):Int)))==([49]:List UInt8)))) rfl (yd2 9 9 _ _ (Lib.itoa ((-y)/(Int.gcd (-x) (-y):Int))) ([49]) rfl rfl rfl) ?_
 refine za0 ?_
 refine ad _ _ ?_
 try clear ad ah
 refine wp_cond_split (t:=((Lib.itoa ((-y)/(Int.gcd (-x) (-y):Int)))==([49]:List UInt8))) rfl (fun aa=>?_) (fun aa=>?_)
 ·refine wp_seq_k (fun al ac=>?_)
  refine rg [0,1] ?_
  refine sv 30 (.string ⟨(Lib.itoa ((-x)/(Int.gcd (-x) (-y):Int)):List UInt8).toArray⟩) ?_
  refine sv 4 (.string ⟨(Lib.itoa ((-x)/(Int.gcd (-x) (-y):Int)):List UInt8).toArray⟩) ?_
  refine za0 ?_
  refine ac _ _ ?_
  try clear ac al
  refine wp_ret ?_
  simp only [Exit.then]
  refine bodyPost_ret (v:=(.string ⟨(Lib.itoa ((-x)/(Int.gcd (-x) (-y):Int)):List UInt8).toArray⟩)) (za7 rfl rfl) rfl ⟨?_,hB⟩
  exact (by rw [text_w h0 aa];rw [zF2])
 ·refine wp_skip ?_
  refine ae _ _ ?_
  try clear ae aq
  refine wp_seq_k (fun ap af=>?_)
  refine rg [0,1,2,3,4] ?_
  refine sv 31 (.string ⟨(Lib.itoa ((-x)/(Int.gcd (-x) (-y):Int)):List UInt8).toArray⟩) ?_
  refine sw 32 (.string ⟨((Lib.itoa ((-x)/(Int.gcd (-x) (-y):Int)))++([47]):List UInt8).toArray⟩) rfl (zz4 9 9 _ _ (Lib.itoa ((-x)/(Int.gcd (-x) (-y):Int))) ([47]) rfl rfl rfl (by simp only [List.length_cons,List.length_nil];omega)) ?_
  refine sv 33 (.string ⟨(Lib.itoa ((-y)/(Int.gcd (-x) (-y):Int)):List UInt8).toArray⟩) ?_
  refine sw 34 (.string ⟨(((Lib.itoa ((-x)/(Int.gcd (-x) (-y):Int)))++([47]))++(Lib.itoa ((-y)/(Int.gcd (-x) (-y):Int))):List UInt8).toArray⟩) rfl (zz4 9 9 _ _ ((Lib.itoa ((-x)/(Int.gcd (-x) (-y):Int)))++([47])) (Lib.itoa ((-y)/(Int.gcd (-x) (-y):Int))) rfl rfl rfl (by simp only [List.length_append,List.length_cons,List.length_nil];omega)) ?_
  refine sv 4 (.string ⟨(((Lib.itoa ((-x)/(Int.gcd (-x) (-y):Int)))++([47]))++(Lib.itoa ((-y)/(Int.gcd (-x) (-y):Int))):List UInt8).toArray⟩) ?_
  refine za0 ?_
  refine af _ _ ?_
  try clear af ap
  refine wp_ret ?_
  refine bodyPost_ret (v:=(.string ⟨(((Lib.itoa ((-x)/(Int.gcd (-x) (-y):Int)))++([47]))++(Lib.itoa ((-y)/(Int.gcd (-x) (-y):Int))):List UInt8).toArray⟩)) (za7 rfl rfl) rfl ⟨?_,hB⟩
  exact (by rw [text_f h0 aa];rw [zF2])

set_option maxRecDepth 100000 in
set_option maxHeartbeats 1000000 in
theorem r2_neg {k:Nat} (a:Rat) (ha:Sz k a.num∧Sz k (a.den:Int)) (_hk:k≤19998) (w:World):
    Calls Tryz.prog 115 #[(.string ⟨(za3 (a):List UInt8).toArray⟩)] w fun e w'=>e=.returned (.string ⟨(za3 (-a)).toArray⟩)∧Gr w w':=by
 go_enter Tryz.func115,Tryz.ntmps115
 have hB:=Gr.refl w
 refine wp_seq_k (fun K1 k1=>?_)
 refine rg [0] ?_
 refine sv 2 (.string ⟨([]:List UInt8).toArray⟩) ?_
 refine za0 ?_
 refine k1 _ _ ?_
 try clear k1 K1
 refine wp_seq_k (fun K2 k2=>?_)
 refine rg [0,1,2,3,4,5,6] ?_
 refine sv 6 (.string ⟨(za3 (a):List UInt8).toArray⟩) ?_
 refine se ?_
 refine ec 7 (zg4 (a) ha.1 ha.2 (by omega) _) ?_
 rintro e3 w3 ⟨rfl,g3⟩
 refine ⟨_,rfl,?_⟩
 replace hB:=hB.trans g3
 simp only [p3,p4]
 refine sv 5 (.tuple #[(.string ⟨(Lib.itoa (a.num):List UInt8).toArray⟩),(.string ⟨(Lib.itoa ((a.den:Int)):List UInt8).toArray⟩)]) ?_
 refine sv 8 (.string ⟨(Lib.itoa (a.num):List UInt8).toArray⟩) ?_
 refine sv 9 (.string ⟨(Lib.itoa ((a.den:Int)):List UInt8).toArray⟩) ?_
 refine sv 3 (.string ⟨(Lib.itoa (a.num):List UInt8).toArray⟩) ?_
 refine sv 4 (.string ⟨(Lib.itoa ((a.den:Int)):List UInt8).toArray⟩) ?_
 refine za0 ?_
 refine k2 _ _ ?_
 try clear k2 K2
 refine wp_seq_k (fun K4 k4=>?_)
 refine rg [0,1,2,3,4] ?_
 refine sv 10 (.string ⟨(Lib.itoa (a.num):List UInt8).toArray⟩) ?_
 refine se ?_
 refine ec 11 (ya4 (a.num) ha.1 (by omega) _) ?_
 rintro e5 w5 ⟨rfl,g5⟩
 refine ⟨_,rfl,?_⟩
 replace hB:=hB.trans g5
 simp only [p3,p4]
 refine sv 12 (.string ⟨(Lib.itoa ((a.den:Int)):List UInt8).toArray⟩) ?_
 refine se ?_
 refine ec 13 (zt1 (-a.num) ((a.den:Int)) ha.1.neg ha.2 (zo4 a) (by omega) _) ?_
 rintro e6 w6 ⟨rfl,g6⟩
 refine ⟨_,rfl,?_⟩
 replace hB:=hB.trans g6
 simp only [p3,p4]
 refine sv 2 (.string ⟨(za3 (Rat.divInt (-a.num) ((a.den:Int))):List UInt8).toArray⟩) ?_
 refine za0 ?_
 refine k4 _ _ ?_
 try clear k4 K4
 refine wp_ret ?_
 refine bodyPost_ret (v:=(.string ⟨(za3 (Rat.divInt (-a.num) ((a.den:Int))):List UInt8).toArray⟩)) (za7 rfl rfl) rfl ⟨?_,hB⟩
 exact (by rw [rat_neg])

set_option maxRecDepth 100000 in
set_option maxHeartbeats 1000000 in
theorem r2_add {k m:Nat} (a b:Rat) (ha:Sz k a.num∧Sz k (a.den:Int)) (hb:Sz m b.num∧Sz m (b.den:Int)) (_hk:k+m≤19998) (w:World):
    Calls Tryz.prog 105 #[(.string ⟨(za3 (a):List UInt8).toArray⟩),(.string ⟨(za3 (b):List UInt8).toArray⟩)] w fun e w'=>e=.returned (.string ⟨(za3 (a+b)).toArray⟩)∧Gr w w':=by
 go_enter Tryz.func105,Tryz.ntmps105
 have hB:=Gr.refl w
 refine wp_seq_k (fun K1 k1=>?_)
 refine rg [0] ?_
 refine sv 4 (.string ⟨([]:List UInt8).toArray⟩) ?_
 refine za0 ?_
 refine k1 _ _ ?_
 try clear k1 K1
 refine wp_seq_k (fun K2 k2=>?_)
 refine rg [0,1,2,3,4,5,6] ?_
 refine sv 10 (.string ⟨(za3 (a):List UInt8).toArray⟩) ?_
 refine se ?_
 refine ec 11 (zg4 (a) ha.1 ha.2 (by omega) _) ?_
 rintro e3 w3 ⟨rfl,g3⟩
 refine ⟨_,rfl,?_⟩
 replace hB:=hB.trans g3
 simp only [p3,p4]
 refine sv 9 (.tuple #[(.string ⟨(Lib.itoa (a.num):List UInt8).toArray⟩),(.string ⟨(Lib.itoa ((a.den:Int)):List UInt8).toArray⟩)]) ?_
 refine sv 12 (.string ⟨(Lib.itoa (a.num):List UInt8).toArray⟩) ?_
 refine sv 13 (.string ⟨(Lib.itoa ((a.den:Int)):List UInt8).toArray⟩) ?_
 refine sv 5 (.string ⟨(Lib.itoa (a.num):List UInt8).toArray⟩) ?_
 refine sv 6 (.string ⟨(Lib.itoa ((a.den:Int)):List UInt8).toArray⟩) ?_
 refine za0 ?_
 refine k2 _ _ ?_
 try clear k2 K2
 refine wp_seq_k (fun K4 k4=>?_)
 refine rg [0,1,2,3,4,5,6] ?_
 refine sv 15 (.string ⟨(za3 (b):List UInt8).toArray⟩) ?_
 refine se ?_
 refine ec 16 (zg4 (b) hb.1 hb.2 (by omega) _) ?_
 rintro e5 w5 ⟨rfl,g5⟩
 refine ⟨_,rfl,?_⟩
 replace hB:=hB.trans g5
 simp only [p3,p4]
 refine sv 14 (.tuple #[(.string ⟨(Lib.itoa (b.num):List UInt8).toArray⟩),(.string ⟨(Lib.itoa ((b.den:Int)):List UInt8).toArray⟩)]) ?_
 refine sv 17 (.string ⟨(Lib.itoa (b.num):List UInt8).toArray⟩) ?_
 refine sv 18 (.string ⟨(Lib.itoa ((b.den:Int)):List UInt8).toArray⟩) ?_
 refine sv 7 (.string ⟨(Lib.itoa (b.num):List UInt8).toArray⟩) ?_
 refine sv 8 (.string ⟨(Lib.itoa ((b.den:Int)):List UInt8).toArray⟩) ?_
 refine za0 ?_
 refine k4 _ _ ?_
 try clear k4 K4
 refine wp_seq_k (fun K6 k6=>?_)
 refine rg [0,1,2,3,4,5,6,7,8,9,10,11] ?_
 refine sv 19 (.string ⟨(Lib.itoa (a.num):List UInt8).toArray⟩) ?_
 refine sv 20 (.string ⟨(Lib.itoa ((b.den:Int)):List UInt8).toArray⟩) ?_
 refine se ?_
 refine ec 21 (zF1 (a.num) ((b.den:Int)) ha.1 hb.2 (by omega) _) ?_
 rintro e7 w7 ⟨rfl,g7⟩
 refine ⟨_,rfl,?_⟩
 replace hB:=hB.trans g7
 simp only [p3,p4]
 refine sv 22 (.string ⟨(Lib.itoa (b.num):List UInt8).toArray⟩) ?_
 refine sv 23 (.string ⟨(Lib.itoa ((a.den:Int)):List UInt8).toArray⟩) ?_
 refine se ?_
 refine ec 24 (zF1 (b.num) ((a.den:Int)) hb.1 ha.2 (by omega) _) ?_
 rintro e8 w8 ⟨rfl,g8⟩
 refine ⟨_,rfl,?_⟩
 replace hB:=hB.trans g8
 simp only [p3,p4]
 refine se ?_
 refine ec 25 (ym5 (a.num*(b.den:Int)) (b.num*(a.den:Int)) (ha.1.mul hb.2) (hb.1.mul ha.2) (by omega) _) ?_
 rintro e9 w9 ⟨rfl,g9⟩
 refine ⟨_,rfl,?_⟩
 replace hB:=hB.trans g9
 simp only [p3,p4]
 refine sv 26 (.string ⟨(Lib.itoa ((a.den:Int)):List UInt8).toArray⟩) ?_
 refine sv 27 (.string ⟨(Lib.itoa ((b.den:Int)):List UInt8).toArray⟩) ?_
 refine se ?_
 refine ec 28 (zF1 ((a.den:Int)) ((b.den:Int)) ha.2 hb.2 (by omega) _) ?_
 rintro ad ac ⟨rfl,ab⟩
 refine ⟨_,rfl,?_⟩
 replace hB:=hB.trans ab
 simp only [p3,p4]
 refine se ?_
 refine ec 29 (zt1 (a.num*(b.den:Int)+b.num*(a.den:Int)) ((a.den:Int)*(b.den:Int)) ((ha.1.mul hb.2).add (hb.1.mul ha.2)) (ha.2.mul hb.2) (zB3 a b) (by omega) _) ?_
 rintro e11 ae ⟨rfl,aa⟩
 refine ⟨_,rfl,?_⟩
 replace hB:=hB.trans aa
 simp only [p3,p4]
 refine sv 4 (.string ⟨(za3 (Rat.divInt (a.num*(b.den:Int)+b.num*(a.den:Int)) ((a.den:Int)*(b.den:Int))):List UInt8).toArray⟩) ?_
 refine za0 ?_
 refine k6 _ _ ?_
 try clear k6 K6
 refine wp_ret ?_
 refine bodyPost_ret (v:=(.string ⟨(za3 (Rat.divInt (a.num*(b.den:Int)+b.num*(a.den:Int)) ((a.den:Int)*(b.den:Int))):List UInt8).toArray⟩)) (za7 rfl rfl) rfl ⟨?_,hB⟩
 exact (by rw [zN4])

set_option maxRecDepth 100000 in
set_option maxHeartbeats 1000000 in
theorem r2_mul {k m:Nat} (a b:Rat) (ha:Sz k a.num∧Sz k (a.den:Int)) (hb:Sz m b.num∧Sz m (b.den:Int)) (_hk:k+m≤19998) (w:World):
    Calls Tryz.prog 106 #[(.string ⟨(za3 (a):List UInt8).toArray⟩),(.string ⟨(za3 (b):List UInt8).toArray⟩)] w fun e w'=>e=.returned (.string ⟨(za3 (a*b)).toArray⟩)∧Gr w w':=by
 go_enter Tryz.func106,Tryz.ntmps106
 have hB:=Gr.refl w
 refine wp_seq_k (fun K1 k1=>?_)
 refine rg [0] ?_
 refine sv 4 (.string ⟨([]:List UInt8).toArray⟩) ?_
 refine za0 ?_
 refine k1 _ _ ?_
 try clear k1 K1
 refine wp_seq_k (fun K2 k2=>?_)
 refine rg [0,1,2,3,4,5,6] ?_
 refine sv 10 (.string ⟨(za3 (a):List UInt8).toArray⟩) ?_
 refine se ?_
 refine ec 11 (zg4 (a) ha.1 ha.2 (by omega) _) ?_
 rintro e3 w3 ⟨rfl,g3⟩
 refine ⟨_,rfl,?_⟩
 replace hB:=hB.trans g3
 simp only [p3,p4]
 refine sv 9 (.tuple #[(.string ⟨(Lib.itoa (a.num):List UInt8).toArray⟩),(.string ⟨(Lib.itoa ((a.den:Int)):List UInt8).toArray⟩)]) ?_
 refine sv 12 (.string ⟨(Lib.itoa (a.num):List UInt8).toArray⟩) ?_
 refine sv 13 (.string ⟨(Lib.itoa ((a.den:Int)):List UInt8).toArray⟩) ?_
 refine sv 5 (.string ⟨(Lib.itoa (a.num):List UInt8).toArray⟩) ?_
 refine sv 6 (.string ⟨(Lib.itoa ((a.den:Int)):List UInt8).toArray⟩) ?_
 refine za0 ?_
 refine k2 _ _ ?_
 try clear k2 K2
 refine wp_seq_k (fun K4 k4=>?_)
 refine rg [0,1,2,3,4,5,6] ?_
 refine sv 15 (.string ⟨(za3 (b):List UInt8).toArray⟩) ?_
 refine se ?_
 refine ec 16 (zg4 (b) hb.1 hb.2 (by omega) _) ?_
 rintro e5 w5 ⟨rfl,g5⟩
 refine ⟨_,rfl,?_⟩
 replace hB:=hB.trans g5
 simp only [p3,p4]
 refine sv 14 (.tuple #[(.string ⟨(Lib.itoa (b.num):List UInt8).toArray⟩),(.string ⟨(Lib.itoa ((b.den:Int)):List UInt8).toArray⟩)]) ?_
 refine sv 17 (.string ⟨(Lib.itoa (b.num):List UInt8).toArray⟩) ?_
 refine sv 18 (.string ⟨(Lib.itoa ((b.den:Int)):List UInt8).toArray⟩) ?_
 refine sv 7 (.string ⟨(Lib.itoa (b.num):List UInt8).toArray⟩) ?_
 refine sv 8 (.string ⟨(Lib.itoa ((b.den:Int)):List UInt8).toArray⟩) ?_
 refine za0 ?_
 refine k4 _ _ ?_
 try clear k4 K4
 refine wp_seq_k (fun K6 k6=>?_)
 refine rg [0,1,2,3,4,5,6,7] ?_
 refine sv 19 (.string ⟨(Lib.itoa (a.num):List UInt8).toArray⟩) ?_
 refine sv 20 (.string ⟨(Lib.itoa (b.num):List UInt8).toArray⟩) ?_
 refine se ?_
 refine ec 21 (zF1 (a.num) (b.num) ha.1 hb.1 (by omega) _) ?_
 rintro e7 w7 ⟨rfl,g7⟩
 refine ⟨_,rfl,?_⟩
 replace hB:=hB.trans g7
 simp only [p3,p4]
 refine sv 22 (.string ⟨(Lib.itoa ((a.den:Int)):List UInt8).toArray⟩) ?_
 refine sv 23 (.string ⟨(Lib.itoa ((b.den:Int)):List UInt8).toArray⟩) ?_
 refine se ?_
 refine ec 24 (zF1 ((a.den:Int)) ((b.den:Int)) ha.2 hb.2 (by omega) _) ?_
 rintro e8 w8 ⟨rfl,g8⟩
 refine ⟨_,rfl,?_⟩
 replace hB:=hB.trans g8
 simp only [p3,p4]
 refine se ?_
 refine ec 25 (zt1 (a.num*b.num) ((a.den:Int)*(b.den:Int)) (ha.1.mul hb.1) (ha.2.mul hb.2) (zB3 a b) (by omega) _) ?_
 rintro e9 w9 ⟨rfl,g9⟩
 refine ⟨_,rfl,?_⟩
 replace hB:=hB.trans g9
 simp only [p3,p4]
 refine sv 4 (.string ⟨(za3 (Rat.divInt (a.num*b.num) ((a.den:Int)*(b.den:Int))):List UInt8).toArray⟩) ?_
 refine za0 ?_
 refine k6 _ _ ?_
 try clear k6 K6
 refine wp_ret ?_
 refine bodyPost_ret (v:=(.string ⟨(za3 (Rat.divInt (a.num*b.num) ((a.den:Int)*(b.den:Int))):List UInt8).toArray⟩)) (za7 rfl rfl) rfl ⟨?_,hB⟩
 exact (by rw [zN5])

set_option maxRecDepth 100000 in
set_option maxHeartbeats 1000000 in
theorem r2_sub {k m:Nat} (a b:Rat) (ha:Sz k a.num∧Sz k (a.den:Int)) (hb:Sz m b.num∧Sz m (b.den:Int)) (_hk:k+m≤19998) (w:World):
    Calls Tryz.prog 132 #[(.string ⟨(za3 (a):List UInt8).toArray⟩),(.string ⟨(za3 (b):List UInt8).toArray⟩)] w fun e w'=>e=.returned (.string ⟨(za3 (a - b)).toArray⟩)∧Gr w w':=by
 go_enter Tryz.func132,Tryz.ntmps132
 have hB:=Gr.refl w
 refine wp_seq_k (fun K1 k1=>?_)
 refine rg [0] ?_
 refine sv 4 (.string ⟨([]:List UInt8).toArray⟩) ?_
 refine za0 ?_
 refine k1 _ _ ?_
 try clear k1 K1
 refine wp_seq_k (fun K2 k2=>?_)
 refine rg [0,1,2,3,4] ?_
 refine sv 5 (.string ⟨(za3 (a):List UInt8).toArray⟩) ?_
 refine sv 6 (.string ⟨(za3 (b):List UInt8).toArray⟩) ?_
 refine se ?_
 refine ec 7 (r2_neg (b) hb (by omega) _) ?_
 rintro e3 w3 ⟨rfl,g3⟩
 refine ⟨_,rfl,?_⟩
 replace hB:=hB.trans g3
 simp only [p3,p4]
 refine se ?_
 refine ec 8 (r2_add (a) (-b) ha (yq8 hb) (by omega) _) ?_
 rintro e4 w4 ⟨rfl,g4⟩
 refine ⟨_,rfl,?_⟩
 replace hB:=hB.trans g4
 simp only [p3,p4]
 refine sv 4 (.string ⟨(za3 (a+-b):List UInt8).toArray⟩) ?_
 refine za0 ?_
 refine k2 _ _ ?_
 try clear k2 K2
 refine wp_ret ?_
 refine bodyPost_ret (v:=(.string ⟨(za3 (a+-b):List UInt8).toArray⟩)) (za7 rfl rfl) rfl ⟨?_,hB⟩
 exact (by rw [Rat.sub_eq_add_neg])

set_option maxRecDepth 100000 in
set_option maxHeartbeats 1000000 in
theorem yf6 {k:Nat} {n0 n1 d0 d1:Value} {N D:Int} {w:World} (hn:IsInt w k n0 n1 N) (hd:IsInt w k d0 d1 D) (_hk:k+k+k+k+k+k+66≤1000000) (_h0:D<0) (hg:(sgn ((Int.gcd ((-N)) ((-D)):Int) - 1) !=0)=false):
    Calls Tryz.prog 95 #[(.agg #[n0,n1]),(.agg #[d0,d1])] w fun e w'=>(∃ x y x2 y2,e=.returned (.agg #[x,y,x2,y2])∧IsInt w' k x y ((-N))∧IsInt w' k x2 y2 ((-D)))∧Gr w w':=by
 go_enter Tryz.func95,Tryz.ntmps95
 have hB:=Gr.refl w
 refine wp_seq_k (fun K1 k1=>?_)
 refine rg [0,1,2] ?_
 refine se ?_
 refine eb 34 #[n0,n1] 2 hB fun b2 w2 g2 L2 o2 q2 hB=>?_
 simp only [p3,p4]
 refine se ?_
 refine eb 34 #[d0,d1] 3 hB fun b3 w3 g3 L3 o3 q3 hB=>?_
 have ak:=L2.ne o3
 simp only [p3,p4]
 refine se ?_
 refine ea 36 #[.bool false,.slice none 0 0,.bool false,.slice none 0 0] 4 hB fun b4 w4 g4 L4 o4 q4 hB=>?_
 replace L2:=L2.gr g3
 have aI:=L2.ne o4
 have aH:=L3.ne o4
 simp only [p3,p4]
 refine za0 ?_
 refine k1 _ _ ?_
 try clear k1 K1
 refine wp_seq_k (fun K5 k5=>?_)
 refine wp_seq_k (fun K6 k6=>?_)
 refine rg [0,1,2] ?_
 replace L3:=L3.gr g4
 refine sw 6 (.agg #[d0,d1]) rfl (rl 34 0 [d0,d1] L3) ?_
 refine se ?_
 have a1:=g2.kp.trans (g3.kp.trans g4.kp)
 replace hd:=hd.kp a1
 refine ec 7 (zM2 hd (by omega)) ?_
 rintro e7 w7 ⟨rfl,g7⟩
 refine ⟨_,rfl,?_⟩
 replace hB:=hB.trans g7
 simp only [p3,p4]
 refine sv 8 (.bool true) ?_
 refine za0 ?_
 refine k6 _ _ ?_
 try clear k6 K6
 refine wp_cond_true rfl ?_
 have ab:=Gr.drew w7
 replace hB:=hB.trans ab
 replace L2:=L2.gr (g4.trans (g7.trans ab))
 replace L3:=L3.gr (g7.trans ab)
 refine zd9 (fun _=>True) [([4],(fun w'=>Lc w' b2 #[n0,n1] 34)),([5],(fun w'=>Lc w' b3 #[d0,d1] 34))] [(true,0),(true,2),(false,1),(false,3),(false,4),(false,5)] (by kernel_rfl) (by kernel_rfl) (by kernel_rfl) (by decide) (fun _ _ _ _ _ h=>h) trivial ⟨fun _=>L2,fun _=>L3,trivial⟩ ?_
 refine tw 9 (.agg #[n0,n1]) rfl (fun w' hS=>(rl 34 0 [n0,n1] (hS.2.1 (by kernel_rfl)))) ?_
 refine tw 11 (.agg #[d0,d1]) rfl (fun w' hS=>(rl 34 0 [d0,d1] (hS.2.2.1 (by kernel_rfl)))) ?_
 refine te ?_
 have aL:=g2.kp.trans (g3.kp.trans (g4.kp.trans (g7.kp.trans ab.kp)))
 replace hn:=hn.kp aL
 refine ec 10 (yf9 hn) ?_
 rintro e12 ba ⟨⟨ac,af,rfl,ai⟩,aK⟩
 refine ⟨_,rfl,?_⟩
 replace hB:=hB.trans aK
 replace L2:=L2.gr aK
 replace L3:=L3.gr aK
 refine ⟨trivial,⟨fun _=>L2,fun _=>L3,trivial⟩,?_⟩
 simp only [p3,p4]
 refine te ?_
 have aM:=g7.kp.trans (ab.kp.trans aK.kp)
 replace hd:=hd.kp aM
 refine ec 12 (yf9 hd) ?_
 rintro bj bb ⟨⟨ae,ad,rfl,aj⟩,az⟩
 refine ⟨_,rfl,?_⟩
 replace hB:=hB.trans az
 replace L2:=L2.gr az
 replace L3:=L3.gr az
 refine ⟨trivial,⟨fun _=>L2,fun _=>L3,trivial⟩,?_⟩
 simp only [p3,p4]
 refine te ?_
 refine es 34 0 (.agg #[ac,af]) [ac,af] #[ac,af] L2 hB q2 ⟨ai.one0,ai.one1,trivial⟩ fun a8 ay aC L2 hB=>?_
 replace L3:=ay.lc L3 (Ne.symm ak)
 refine ⟨trivial,⟨zn0 (by kernel_rfl),fun _=>L3,trivial⟩,?_⟩
 refine te ?_
 refine es 34 0 (.agg #[ae,ad]) [ae,ad] #[ae,ad] L3 hB q3 ⟨aj.one0,aj.one1,trivial⟩ fun bc aA aF L3 hB=>?_
 refine ⟨trivial,⟨zn0 (by kernel_rfl),zn0 (by kernel_rfl),trivial⟩,?_⟩
 refine zx2 ?_
 refine k5 _ _ ?_
 try clear k5 K5
 refine wp_seq_k (fun aY aS=>?_)
 refine rg [0,1,2,3,4] ?_
 replace L2:=aA.lc L2 ak
 refine sw 13 (.agg #[ac,af]) rfl (rl 34 0 [ac,af] L2) ?_
 refine sw 14 (.agg #[ae,ad]) rfl (rl 34 0 [ae,ad] L3) ?_
 refine se ?_
 have aN:=az.kp.trans (aC.trans aF)
 replace ai:=ai.kp aN
 have aQ:=aC.trans aF
 replace aj:=aj.kp aQ
 refine ec 15 (yg0 ai aj (by omega)) ?_
 rintro e22 bi ⟨⟨aw,ax,rfl,aD⟩,aJ⟩
 refine ⟨_,rfl,?_⟩
 replace hB:=hB.trans aJ
 simp only [p3,p4]
 refine se ?_
 refine ea 34 #[.bool false,.slice none 0 0] 5 hB fun aX bf aB ah aO aZ hB=>?_
 replace L2:=L2.gr aJ
 have ar:=L2.ne aO
 replace L3:=L3.gr aJ
 have al:=L3.ne aO
 replace L4:=(aA.lc (ay.lc (L4.gr (g7.trans (ab.trans (aK.trans az)))) (Ne.symm aI)) (Ne.symm aH)).gr aJ
 have aq:=L4.ne aO
 simp only [p3,p4]
 refine se ?_
 refine es 34 0 (.agg #[aw,ax]) [aw,ax] #[aw,ax] ah hB aZ ⟨aD.one0,aD.one1,trivial⟩ fun a0 ap aE ah hB=>?_
 refine za0 ?_
 refine aS _ _ ?_
 try clear aS aY
 refine wp_seq_k (fun a3 aV=>?_)
 refine wp_seq_k (fun aW aT=>?_)
 have aa:=Gr.drew a0
 replace hB:=hB.trans aa
 replace ah:=ah.gr aa
 refine za2 (fun w'=>Lc w' aX #[aw,ax] 34) [(true,0),(false,1),(false,2),(true,3)] (by kernel_rfl) (by kernel_rfl) (by kernel_rfl) (by decide) (fun _ _ _ _ _ h=>h) ah ?_
 refine ow 16 (.agg #[aw,ax]) rfl (fun w' hS=>(rl 34 0 [aw,ax] hS)) ?_
 refine oe ?_
 refine ec 17 (zQ1 _) ?_
 rintro a7 bk ⟨⟨bd,bh,rfl,a5⟩,au⟩
 refine ⟨_,rfl,?_⟩
 replace hB:=hB.trans au
 replace ah:=ah.gr au
 refine ⟨ah,?_⟩
 simp only [p3,p4]
 refine oe ?_
 have aP:=aB.kp.trans (aE.trans (aa.kp.trans au.kp))
 replace aD:=aD.kp aP
 refine ec 18 (zf2 aD a5 (by omega) (by omega)) ?_
 rintro a6 bg ⟨rfl,av⟩
 refine ⟨_,rfl,?_⟩
 replace hB:=hB.trans av
 replace ah:=ah.gr av
 refine ⟨ah,?_⟩
 simp only [p3,p4]
 refine ow 19 (.bool false) rfl (fun w' hS=>(RunV.bool (x:=(sgn ((Int.gcd ((-N)) ((-D)):Int) - 1) !=(0:Int))) (rvk (by kernel_rfl)) hg)) ?_
 refine zb1 ?_
 refine aT _ _ ?_
 try clear aT aW
 refine wp_cond_false rfl ?_
 refine wp_skip ?_
 refine aV _ _ ?_
 try clear aV a3
 refine wp_seq_k (fun a4 aU=>?_)
 refine rg [0,1,2,3] ?_
 replace L2:=(ap.lc (L2.gr aB) ar).gr (aa.trans (au.trans av))
 refine sw 34 (.agg #[ac,af]) rfl (rl 34 0 [ac,af] L2) ?_
 replace L3:=(ap.lc (L3.gr aB) al).gr (aa.trans (au.trans av))
 refine sw 35 (.agg #[ae,ad]) rfl (rl 34 0 [ae,ad] L3) ?_
 refine sv 36 (.agg #[ac,af,ae,ad]) ?_
 refine se ?_
 replace L4:=(ap.lc (L4.gr aB) aq).gr (aa.trans (au.trans av))
 refine es 36 0 (.agg #[ac,af,ae,ad]) [ac,af,ae,ad] #[ac,af,ae,ad] L4 hB q4 ⟨ai.one0,ai.one1,aj.one0,aj.one1,trivial⟩ fun a9 a2 aR L4 hB=>?_
 refine za0 ?_
 refine aU _ _ ?_
 try clear aU a4
 refine wp_ret ?_
 refine bodyPost_ret (v:=(.agg #[ac,af,ae,ad])) (zb0 _ _ _ rfl rfl L4 (by kernel_rfl)) rfl ⟨?_,hB⟩
 have aG:=aJ.kp.trans (aB.kp.trans (aE.trans (aa.kp.trans (au.kp.trans (av.kp.trans aR)))))
 replace ai:=ai.kp aG
 replace aj:=aj.kp aG
 exact ⟨_,_,_,_,rfl,ai,aj⟩

set_option maxRecDepth 100000 in
set_option maxHeartbeats 1000000 in
theorem yf7 {k:Nat} {n0 n1 d0 d1:Value} {N D:Int} {w:World} (hn:IsInt w k n0 n1 N) (hd:IsInt w k d0 d1 D) (_hk:k+k+k+k+k+k+66≤1000000) (_h0:D<0) (hg:(sgn ((Int.gcd ((-N)) ((-D)):Int) - 1) !=0)=true) (hxn:0<(Int.gcd ((-N)) ((-D)):Int)∧(Int.gcd ((-N)) ((-D)):Int)∣(-N)) (_hxd:0<(Int.gcd ((-N)) ((-D)):Int)∧(Int.gcd ((-N)) ((-D)):Int)∣(-D)):
    Calls Tryz.prog 95 #[(.agg #[n0,n1]),(.agg #[d0,d1])] w fun e w'=>(∃ x y x2 y2,e=.returned (.agg #[x,y,x2,y2])∧IsInt w' k x y ((-N)/(Int.gcd ((-N)) ((-D)):Int))∧IsInt w' k x2 y2 ((-D)/(Int.gcd ((-N)) ((-D)):Int)))∧Gr w w':=by
 go_enter Tryz.func95,Tryz.ntmps95
 have hB:=Gr.refl w
 refine wp_seq_k (fun K1 k1=>?_)
 refine rg [0,1,2] ?_
 refine se ?_
 refine eb 34 #[n0,n1] 2 hB fun b2 w2 g2 L2 o2 q2 hB=>?_
 simp only [p3,p4]
 refine se ?_
 refine eb 34 #[d0,d1] 3 hB fun b3 w3 g3 L3 o3 q3 hB=>?_
 have ac:=L2.ne o3
 simp only [p3,p4]
 refine se ?_
 refine ea 36 #[.bool false,.slice none 0 0,.bool false,.slice none 0 0] 4 hB fun b4 w4 g4 L4 o4 q4 hB=>?_
 replace L2:=L2.gr g3
 have aw:=L2.ne o4
 have av:=L3.ne o4
 simp only [p3,p4]
 refine za0 ?_
 refine k1 _ _ ?_
 try clear k1 K1
 refine wp_seq_k (fun K5 k5=>?_)
 refine wp_seq_k (fun K6 k6=>?_)
 refine rg [0,1,2] ?_
 replace L3:=L3.gr g4
 refine sw 6 (.agg #[d0,d1]) rfl (rl 34 0 [d0,d1] L3) ?_
 refine se ?_
 have bu:=g2.kp.trans (g3.kp.trans g4.kp)
 replace hd:=hd.kp bu
 refine ec 7 (zM2 hd (by omega)) ?_
 rintro e7 w7 ⟨rfl,g7⟩
 refine ⟨_,rfl,?_⟩
 replace hB:=hB.trans g7
 simp only [p3,p4]
 refine sv 8 (.bool true) ?_
 refine za0 ?_
 refine k6 _ _ ?_
 try clear k6 K6
 refine wp_cond_true rfl ?_
 have ad:=Gr.drew w7
 replace hB:=hB.trans ad
 replace L2:=L2.gr (g4.trans (g7.trans ad))
 replace L3:=L3.gr (g7.trans ad)
 refine zd9 (fun _=>True) [([4],(fun w'=>Lc w' b2 #[n0,n1] 34)),([5],(fun w'=>Lc w' b3 #[d0,d1] 34))] [(true,0),(true,2),(false,1),(false,3),(false,4),(false,5)] (by kernel_rfl) (by kernel_rfl) (by kernel_rfl) (by decide) (fun _ _ _ _ _ h=>h) trivial ⟨fun _=>L2,fun _=>L3,trivial⟩ ?_
 refine tw 9 (.agg #[n0,n1]) rfl (fun w' hS=>(rl 34 0 [n0,n1] (hS.2.1 (by kernel_rfl)))) ?_
 refine tw 11 (.agg #[d0,d1]) rfl (fun w' hS=>(rl 34 0 [d0,d1] (hS.2.2.1 (by kernel_rfl)))) ?_
 refine te ?_
 have a2:=g2.kp.trans (g3.kp.trans (g4.kp.trans (g7.kp.trans ad.kp)))
 replace hn:=hn.kp a2
 refine ec 10 (yf9 hn) ?_
 rintro e12 bE ⟨⟨az,aK,rfl,aq⟩,aZ⟩
 refine ⟨_,rfl,?_⟩
 replace hB:=hB.trans aZ
 replace L2:=L2.gr aZ
 replace L3:=L3.gr aZ
 refine ⟨trivial,⟨fun _=>L2,fun _=>L3,trivial⟩,?_⟩
 simp only [p3,p4]
 refine te ?_
 have a3:=g7.kp.trans (ad.kp.trans aZ.kp)
 replace hd:=hd.kp a3
 refine ec 12 (yf9 hd) ?_
 rintro bR bF ⟨⟨aJ,aF,rfl,au⟩,aQ⟩
 refine ⟨_,rfl,?_⟩
 replace hB:=hB.trans aQ
 replace L2:=L2.gr aQ
 replace L3:=L3.gr aQ
 refine ⟨trivial,⟨fun _=>L2,fun _=>L3,trivial⟩,?_⟩
 simp only [p3,p4]
 refine te ?_
 refine es 34 0 (.agg #[az,aK]) [az,aK] #[az,aK] L2 hB q2 ⟨aq.one0,aq.one1,trivial⟩ fun bC aN aS L2 hB=>?_
 replace L3:=aN.lc L3 (Ne.symm ac)
 refine ⟨trivial,⟨zn0 (by kernel_rfl),fun _=>L3,trivial⟩,?_⟩
 refine te ?_
 refine es 34 0 (.agg #[aJ,aF]) [aJ,aF] #[aJ,aF] L3 hB q3 ⟨au.one0,au.one1,trivial⟩ fun bG aR aW L3 hB=>?_
 refine ⟨trivial,⟨zn0 (by kernel_rfl),zn0 (by kernel_rfl),trivial⟩,?_⟩
 refine zx2 ?_
 refine k5 _ _ ?_
 try clear k5 K5
 refine wp_seq_k (fun bo bd=>?_)
 refine rg [0,1,2,3,4] ?_
 replace L2:=aR.lc L2 ac
 refine sw 13 (.agg #[az,aK]) rfl (rl 34 0 [az,aK] L2) ?_
 refine sw 14 (.agg #[aJ,aF]) rfl (rl 34 0 [aJ,aF] L3) ?_
 refine se ?_
 have a4:=aQ.kp.trans (aS.trans aW)
 replace aq:=aq.kp a4
 have a9:=aS.trans aW
 replace au:=au.kp a9
 refine ec 15 (yg0 aq au (by omega)) ?_
 rintro e22 bQ ⟨⟨al,ap,rfl,aj⟩,aM⟩
 refine ⟨_,rfl,?_⟩
 replace hB:=hB.trans aM
 simp only [p3,p4]
 refine se ?_
 refine ea 34 #[.bool false,.slice none 0 0] 5 hB fun bm bL aL ab a5 bp hB=>?_
 replace L2:=L2.gr aM
 have ak:=L2.ne a5
 replace L3:=L3.gr aM
 have ay:=L3.ne a5
 replace L4:=(aR.lc (aN.lc (L4.gr (g7.trans (ad.trans (aZ.trans aQ)))) (Ne.symm aw)) (Ne.symm av)).gr aM
 have aE:=L4.ne a5
 simp only [p3,p4]
 refine se ?_
 refine es 34 0 (.agg #[al,ap]) [al,ap] #[al,ap] ab hB bp ⟨aj.one0,aj.one1,trivial⟩ fun bt aD aB ab hB=>?_
 refine za0 ?_
 refine bd _ _ ?_
 try clear bd bo
 refine wp_seq_k (fun bv bh=>?_)
 refine wp_seq_k (fun bk bf=>?_)
 have aa:=Gr.drew bt
 replace hB:=hB.trans aa
 replace ab:=ab.gr aa
 refine za2 (fun w'=>Lc w' bm #[al,ap] 34) [(true,0),(false,1),(false,2),(true,3)] (by kernel_rfl) (by kernel_rfl) (by kernel_rfl) (by decide) (fun _ _ _ _ _ h=>h) ab ?_
 refine ow 16 (.agg #[al,ap]) rfl (fun w' hS=>(rl 34 0 [al,ap] hS)) ?_
 refine oe ?_
 refine ec 17 (zQ1 _) ?_
 rintro bA bT ⟨⟨bH,bO,rfl,bx⟩,ax⟩
 refine ⟨_,rfl,?_⟩
 replace hB:=hB.trans ax
 replace ab:=ab.gr ax
 refine ⟨ab,?_⟩
 simp only [p3,p4]
 refine oe ?_
 have a7:=aL.kp.trans (aB.trans (aa.kp.trans ax.kp))
 replace aj:=aj.kp a7
 refine ec 18 (zf2 aj bx (by omega) (by omega)) ?_
 rintro bz bM ⟨rfl,ar⟩
 refine ⟨_,rfl,?_⟩
 replace hB:=hB.trans ar
 replace ab:=ab.gr ar
 refine ⟨ab,?_⟩
 simp only [p3,p4]
 refine ow 19 (.bool true) rfl (fun w' hS=>(RunV.bool (x:=(sgn ((Int.gcd ((-N)) ((-D)):Int) - 1) !=(0:Int))) (rvk (by kernel_rfl)) hg)) ?_
 refine zb1 ?_
 refine bf _ _ ?_
 try clear bf bk
 refine wp_cond_true rfl ?_
 refine wp_seq_k (fun bw bg=>?_)
 refine rg [0,1,2,3,4,5,6,7] ?_
 replace L2:=(aD.lc (L2.gr aL) ak).gr (aa.trans (ax.trans ar))
 refine sw 21 (.agg #[az,aK]) rfl (rl 34 0 [az,aK] L2) ?_
 refine sw 22 (.agg #[al,ap]) rfl (rl 34 0 [al,ap] ab) ?_
 refine se ?_
 have a8:=aM.kp.trans (aL.kp.trans (aB.trans (aa.kp.trans (ax.kp.trans ar.kp))))
 replace aq:=aq.kp a8
 replace aj:=aj.kp ar.kp
 refine ec 23 (zt5 aq aj hxn.1 (by omega)) ?_
 rintro bS bD ⟨⟨ah,af,aV,aY,rfl,aA,bq⟩,aH⟩
 refine ⟨_,rfl,?_⟩
 replace hB:=hB.trans aH
 simp only [p3,p4]
 refine sv 20 (.tuple #[(.agg #[ah,af]),(.agg #[aV,aY]),.int .i64 0]) ?_
 refine sv 24 (.agg #[ah,af]) ?_
 refine sv 25 (.agg #[aV,aY]) ?_
 refine sv 26 (.int .i64 0) ?_
 refine se ?_
 replace L2:=L2.gr aH
 refine es 34 0 (.agg #[ah,af]) [ah,af] #[ah,af] L2 hB q2 ⟨aA.one0,aA.one1,trivial⟩ fun bK aI aG L2 hB=>?_
 refine za0 ?_
 refine bg _ _ ?_
 try clear bg bw
 refine rg [0,1,2,3,4,5,6,7] ?_
 replace L3:=aI.lc ((aD.lc (L3.gr aL) ay).gr (aa.trans (ax.trans (ar.trans aH)))) (Ne.symm ac)
 refine sw 28 (.agg #[aJ,aF]) rfl (rl 34 0 [aJ,aF] L3) ?_
 replace ab:=aI.lc (ab.gr aH) (Ne.symm ak)
 refine sw 29 (.agg #[al,ap]) rfl (rl 34 0 [al,ap] ab) ?_
 refine se ?_
 have ba:=aM.kp.trans (aL.kp.trans (aB.trans (aa.kp.trans (ax.kp.trans (ar.kp.trans (aH.kp.trans aG))))))
 replace au:=au.kp ba
 have a6:=aH.kp.trans aG
 replace aj:=aj.kp a6
 refine ec 30 (zt5 au aj hxn.1 (by omega)) ?_
 rintro bJ bN ⟨⟨ai,ae,aU,aT,rfl,aC,bj⟩,aX⟩
 refine ⟨_,rfl,?_⟩
 replace hB:=hB.trans aX
 simp only [p3,p4]
 refine sv 27 (.tuple #[(.agg #[ai,ae]),(.agg #[aU,aT]),.int .i64 0]) ?_
 refine sv 31 (.agg #[ai,ae]) ?_
 refine sv 32 (.agg #[aU,aT]) ?_
 refine sv 33 (.int .i64 0) ?_
 refine se ?_
 replace L3:=L3.gr aX
 refine es 34 0 (.agg #[ai,ae]) [ai,ae] #[ai,ae] L3 hB q3 ⟨aC.one0,aC.one1,trivial⟩ fun bB aO aP L3 hB=>?_
 refine za0 ?_
 refine bh _ _ ?_
 try clear bh bv
 refine wp_seq_k (fun bn bc=>?_)
 refine rg [0,1,2,3] ?_
 replace L2:=aO.lc (L2.gr aX) ac
 refine sw 34 (.agg #[ah,af]) rfl (rl 34 0 [ah,af] L2) ?_
 refine sw 35 (.agg #[ai,ae]) rfl (rl 34 0 [ai,ae] L3) ?_
 refine sv 36 (.agg #[ah,af,ai,ae]) ?_
 refine se ?_
 replace L4:=aO.lc ((aI.lc ((aD.lc (L4.gr aL) aE).gr (aa.trans (ax.trans (ar.trans aH)))) (Ne.symm aw)).gr aX) (Ne.symm av)
 refine es 36 0 (.agg #[ah,af,ai,ae]) [ah,af,ai,ae] #[ah,af,ai,ae] L4 hB q4 ⟨aA.one0,aA.one1,aC.one0,aC.one1,trivial⟩ fun bP bi a0 L4 hB=>?_
 refine za0 ?_
 refine bc _ _ ?_
 try clear bc bn
 refine wp_ret ?_
 refine bodyPost_ret (v:=(.agg #[ah,af,ai,ae])) (zb0 _ _ _ rfl rfl L4 (by kernel_rfl)) rfl ⟨?_,hB⟩
 have bb:=aG.trans (aX.kp.trans (aP.trans a0))
 replace aA:=aA.kp bb
 have a1:=aP.trans a0
 replace aC:=aC.kp a1
 exact ⟨_,_,_,_,rfl,aA,aC⟩

theorem yr0 {k m:Nat} (K:Nat) {n0 n1 d0 d1:Value} {N D:Int} {w:World} (hn:IsInt w k n0 n1 N) (hd:IsInt w m d0 d1 D) (h0:D≠0) (h1:k≤K) (h2:m≤K) (h3:64≤K) (h4:8*K≤1000000):
  Calls Tryz.prog 95 #[.agg #[n0,n1],.agg #[d0,d1]] w fun e w'=>(∃ c0 c1 c2 c3,e=.returned (.agg #[c0,c1,c2,c3])∧IsRat w' K c0 c1 c2 c3 (Rat.divInt N D))∧Gr w w':=by
 rcases Int.lt_or_gt_of_ne h0 with hneg | hpos
 ·have hN:=hn.mono h1
  have hD:=hd.mono h2
  have hp:0< -D:=by omega
  have e0:Rat.divInt N D=Rat.divInt (-N) (-D):=(Rat.neg_divInt_neg N D).symm
  have en:(Rat.divInt N D).num=(-N)/(Int.gcd (-N) (-D):Int):=by
   rw [e0,Rat.num_divInt,Int.sign_eq_one_of_pos hp,Int.one_mul,Int.gcd_comm]
  have ed:((Rat.divInt N D).den:Int)=(-D)/(Int.gcd (-N) (-D):Int):=by
   rw [e0,Rat.den_divInt,if_neg (by omega),Int.gcd_comm,Int.natCast_ediv]
   congr 1
   omega
  have ab:0<(Int.gcd (-N) (-D):Int):=by
   have:Int.gcd (-N) (-D)≠0:=by rw [Ne,Int.gcd_eq_zero_iff];omega
   omega
  by_cases hg:(Int.gcd (-N) (-D):Int)=1
  ·refine (yf6 hN hD (by omega) hneg (by rw [hg];rfl)).mono ?_
   rintro e w1 ⟨⟨x,y,x2,y2,he,hi,aa⟩,g⟩
   rw [hg,Int.ediv_one] at en ed
   exact ⟨⟨x,y,x2,y2,he,by rw [en];exact hi,⟨_,aa,.inl ed.symm⟩,h3⟩,g⟩
  ·have hb:(sgn ((Int.gcd (-N) (-D):Int) - 1) !=0)=true:=by
    have:sgn ((Int.gcd (-N) (-D):Int) - 1)≠0:=fun h=>hg (by have:=zc8.1 h;omega)
    simpa using this
   refine (yf7 hN hD (by omega) hneg hb ⟨ab,Int.gcd_dvd_left ..⟩ ⟨ab,Int.gcd_dvd_right ..⟩).mono ?_
   rintro e w1 ⟨⟨x,y,x2,y2,he,hi,aa⟩,g⟩
   exact ⟨⟨x,y,x2,y2,he,by rw [en];exact hi,⟨_,aa,.inl ed.symm⟩,h3⟩,g⟩
 ·exact zo6 K hn hd hpos h1 h2 h3 h4
set_option maxRecDepth 100000 in
set_option maxHeartbeats 1000000 in
theorem number_w {k:Nat} {u0 u1 u2 u3:Value} {a:Rat} {w:World} (ha:IsRat w k u0 u1 u2 u3 a) (_hk:k≤800000) (ht:Tab w) (hw:a.den=1):
    Calls Tryz.prog 87 #[(.agg #[u0,u1,u2,u3])] w fun e w'=>e=.returned (.string ⟨(za3 a).toArray⟩)∧Gr w w':=by
 go_enter Tryz.func87,Tryz.ntmps87
 have hB:=Gr.refl w
 refine wp_seq_k (fun K1 k1=>?_)
 refine rg [0,1] ?_
 refine se ?_
 refine eb 36 #[u0,u1,u2,u3] 1 hB fun b2 w2 g2 L2 o2 q2 hB=>?_
 simp only [p3,p4]
 refine sv 2 (.string ⟨([]:List UInt8).toArray⟩) ?_
 refine za0 ?_
 refine k1 _ _ ?_
 try clear k1 K1
 refine wp_seq_k (fun K3 k3=>?_)
 refine wp_seq_k (fun K4 k4=>?_)
 refine rg [0,1] ?_
 refine sw 3 (.agg #[u0,u1,u2,u3]) rfl (rl 36 0 [u0,u1,u2,u3] L2) ?_
 refine se ?_
 replace ha:=ha.kp g2.kp
 refine ec 4 (zi2 ha (by omega) hw) ?_
 rintro e5 w5 ⟨rfl,g5⟩
 refine ⟨_,rfl,?_⟩
 replace hB:=hB.trans g5
 simp only [p3,p4]
 refine za0 ?_
 refine k4 _ _ ?_
 try clear k4 K4
 refine wp_cond_true rfl ?_
 refine wp_seq_k (fun K6 k6=>?_)
 refine rg [0,1,2,3] ?_
 refine sv 5 (.pointer (some ⟨b2,0,none⟩)) ?_
 replace L2:=L2.gr g5
 refine sw 6 (.agg #[u0,u1]) rfl (rl 34 0 [u0,u1] L2) ?_
 refine se ?_
 replace ha:=ha.kp g5.kp
 refine ec 7 (yl0 ha.num (by omega) (ht.gr hB)) ?_
 rintro e7 w7 ⟨rfl,g7⟩
 refine ⟨_,rfl,?_⟩
 replace hB:=hB.trans g7
 simp only [p3,p4]
 refine sv 2 (.string ⟨(Lib.itoa (a.num):List UInt8).toArray⟩) ?_
 refine za0 ?_
 refine k6 _ _ ?_
 try clear k6 K6
 refine wp_ret ?_
 simp only [Exit.then]
 refine bodyPost_ret (v:=(.string ⟨(Lib.itoa (a.num):List UInt8).toArray⟩)) (za7 rfl rfl) rfl ⟨?_,hB⟩
 exact (by rw [zZ4 hw])

set_option maxRecDepth 100000 in
set_option maxHeartbeats 1000000 in
theorem number_d {k:Nat} {u0 u1 u2 u3:Value} {a:Rat} {w:World} (ha:IsRat w k u0 u1 u2 u3 a) (_hk:k≤800000) (ht:Tab w) (hd:IsInt w k u2 u3 (a.den:Int)) (hw:¬ a.den=1):
    Calls Tryz.prog 87 #[(.agg #[u0,u1,u2,u3])] w fun e w'=>e=.returned (.string ⟨(za3 a).toArray⟩)∧Gr w w':=by
 have ah:=zj1 ha.num.sz
 have ak:=zj1 hd.sz
 go_enter Tryz.func87,Tryz.ntmps87
 have hB:=Gr.refl w
 refine wp_seq_k (fun K1 k1=>?_)
 refine rg [0,1] ?_
 refine se ?_
 refine eb 36 #[u0,u1,u2,u3] 1 hB fun b2 w2 g2 L2 o2 q2 hB=>?_
 simp only [p3,p4]
 refine sv 2 (.string ⟨([]:List UInt8).toArray⟩) ?_
 refine za0 ?_
 refine k1 _ _ ?_
 try clear k1 K1
 refine wp_seq_k (fun K3 k3=>?_)
 refine wp_seq_k (fun K4 k4=>?_)
 refine rg [0,1] ?_
 refine sw 3 (.agg #[u0,u1,u2,u3]) rfl (rl 36 0 [u0,u1,u2,u3] L2) ?_
 refine se ?_
 replace ha:=ha.kp g2.kp
 refine ec 4 (zo5 ha (by omega) hw) ?_
 rintro e5 w5 ⟨rfl,g5⟩
 refine ⟨_,rfl,?_⟩
 replace hB:=hB.trans g5
 simp only [p3,p4]
 refine za0 ?_
 refine k4 _ _ ?_
 try clear k4 K4
 refine wp_cond_false rfl ?_
 refine wp_skip ?_
 refine k3 _ _ ?_
 try clear k3 K3
 refine wp_seq_k (fun K6 k6=>?_)
 have aa:=Gr.drew w5
 replace hB:=hB.trans aa
 replace L2:=L2.gr (g5.trans aa)
 refine za2 (fun w'=>Lc w' b2 #[u0,u1,u2,u3] 36) [(true,0),(true,1),(true,4),(true,5),(false,2),(true,3),(false,6),(true,7),(true,8)] (by kernel_rfl) (by kernel_rfl) (by kernel_rfl) (by decide) (fun _ _ _ _ _ h=>h) L2 ?_
 refine ov 8 (.pointer (some ⟨b2,0,none⟩)) ?_
 refine ow 9 (.agg #[u0,u1]) rfl (fun w' hS=>(rl 34 0 [u0,u1] hS)) ?_
 refine ov 12 (.pointer (some ⟨b2,2,none⟩)) ?_
 refine ow 13 (.agg #[u2,u3]) rfl (fun w' hS=>(rl 34 2 [u2,u3] hS)) ?_
 refine oe ?_
 have ad:=g5.kp.trans aa.kp
 replace ha:=ha.kp ad
 refine ec 10 (yl0 ha.num (by omega) (ht.gr hB)) ?_
 rintro af aj ⟨rfl,ac⟩
 refine ⟨_,rfl,?_⟩
 replace hB:=hB.trans ac
 replace L2:=L2.gr ac
 refine ⟨L2,?_⟩
 simp only [p3,p4]
 refine ow 11 (.string ⟨((Lib.itoa (a.num))++([47]):List UInt8).toArray⟩) rfl (fun w' hS=>(zz4 9 9 _ _ (Lib.itoa (a.num)) ([47]) rfl rfl rfl (by simp only [List.length_cons,List.length_nil];omega))) ?_
 refine oe ?_
 have ab:=g2.kp.trans (g5.kp.trans (aa.kp.trans ac.kp))
 replace hd:=hd.kp ab
 refine ec 14 (yl0 hd (by omega) (ht.gr hB)) ?_
 rintro ai al ⟨rfl,ae⟩
 refine ⟨_,rfl,?_⟩
 replace hB:=hB.trans ae
 replace L2:=L2.gr ae
 refine ⟨L2,?_⟩
 simp only [p3,p4]
 refine ow 15 (.string ⟨(((Lib.itoa (a.num))++([47]))++(Lib.itoa ((a.den:Int))):List UInt8).toArray⟩) rfl (fun w' hS=>(zz4 9 9 _ _ ((Lib.itoa (a.num))++([47])) (Lib.itoa ((a.den:Int))) rfl rfl rfl (by simp only [List.length_append,List.length_cons,List.length_nil];omega))) ?_
 refine ov 2 (.string ⟨(((Lib.itoa (a.num))++([47]))++(Lib.itoa ((a.den:Int))):List UInt8).toArray⟩) ?_
 refine zb1 ?_
 refine k6 _ _ ?_
 try clear k6 K6
 refine wp_ret ?_
 refine bodyPost_ret (v:=(.string ⟨(((Lib.itoa (a.num))++([47]))++(Lib.itoa ((a.den:Int))):List UInt8).toArray⟩)) (za7 rfl rfl) rfl ⟨?_,hB⟩
 exact (by rw [yj6 hw])

theorem zA9 {k:Nat} {u0 u1 u2 u3:Value} {a:Rat} {w:World} (ha:IsRat w k u0 u1 u2 u3 a) (hk:k≤800000) (ht:Tab w):
  Calls Tryz.prog 87 #[.agg #[u0,u1,u2,u3]] w fun e w'=>e=.returned (.string ⟨(za3 a).toArray⟩)∧Gr w w':=by
 by_cases hw:a.den=1
 ·exact number_w ha hk ht hw
 ·obtain ⟨D,h2,h3⟩:=ha.den
  rcases h3 with h3 | ⟨_,h4⟩
  ·subst h3;exact number_d ha hk ht h2 hw
  ·exact absurd h4 hw

theorem zg9 {x:Int} (z:Nat) (e:x=(z:Int)) (h1:z<10):Lib.itoa x=[UInt8.ofNat (48+z)]:=by
 unfold Lib.itoa
 rw [e,if_neg (by omega),Int.toNat_natCast,zc5 h1]
theorem yn5 {x:Int} (z:Nat) (e:x=-(z:Int)) (h0:0<z) (h1:z<10):Lib.itoa x=[45,UInt8.ofNat (48+z)]:=by
 unfold Lib.itoa
 rw [e,if_pos (by omega)]
 have:(-(z:Int)).natAbs=z:=by omega
 rw [this,zc5 h1]
theorem yb4 {X Y:List UInt8} (h:X=Y):(X==Y)=true:=by rw [h];exact beq_self_eq_true _
theorem zn7 {q:Rat} {Y:List UInt8} (h:(q.den==1)=true) (e:Lib.itoa q.num=Y):(za3 q==Y)=true:=by
 rw [zZ4 (by simpa using h)];exact yb4 e
theorem zQ7 {q:Rat} {X Z Y:List UInt8} (h:(q.den==1)=false) (e:Lib.itoa q.num=X) (f:Lib.itoa (q.den:Int)=Z) (g:X++[47]++Z=Y):(za3 q==Y)=true:=by
 rw [yj6 (by simpa using h),e,f];exact yb4 g
theorem zD6 {k:Nat} {x y:Int} (hx:Sz k x) (hy:Sz k y) (h0:y≠0):Sz k (Rat.divInt x y).num∧Sz k ((Rat.divInt x y).den:Int):=by
 have key:∀ {x y:Int},Sz k x→Sz k y→0<y→Sz k (Rat.divInt x y).num∧Sz k ((Rat.divInt x y).den:Int):=by
  intro x y hx hy h0
  obtain ⟨h1,h2,h3⟩:=zh1 (N:=x) h0
  rw [h1,h2]
  exact ⟨zK0 hx h3,zK0 hy h3⟩
 rcases Int.lt_or_gt_of_ne h0 with h | h
 ·have:=key hx.neg hy.neg (by omega)
  rwa [Rat.neg_divInt_neg] at this
 ·exact key hx hy h
theorem yn6 {k:Nat} (x y:Int) (q:Rat) (e:q=Rat.divInt x y) (hx:Sz k x) (hy:Sz k y) (h0:y≠0) (hk:k≤30000) (w:World):
  Calls Tryz.prog 100 #[.string ⟨(Lib.itoa x).toArray⟩,.string ⟨(Lib.itoa y).toArray⟩] w fun e w'=>e=.returned (.string ⟨(za3 q).toArray⟩)∧Gr w w':=by
 subst e
 rcases Int.lt_or_gt_of_ne h0 with h | h
 ·exact ym6 x y hx hy h (by omega) w
 ·exact zt1 x y hx hy h (by omega) w
-- LEFT OUT:r1_check r1_check_l
theorem zS1:∀ (l:List UInt8),Lib.index l [47]=(match (zr3 l).2 with | none=>-1 | some _=>((zr3 l).1.length:Int))
 | []=>rfl
 | c::l=>by
  have ih:=zS1 l
  unfold Lib.index
  by_cases h:c=47
  ·subst h
   have e:zr3 (47::l)=([],some l):=by simp [zr3]
   rw [e]
   simp [List.isPrefixOf]
  ·have e:zr3 (c::l)=(c::(zr3 l).1,(zr3 l).2):=by
    conv=>lhs;unfold zr3
    rw [if_neg h]
   have h2:¬ (47:UInt8)=c:=fun x=>h x.symm
   have h3:[47].isPrefixOf (c::l)=false:=by simp [List.isPrefixOf,h2]
   rw [e,h3,ih]
   cases hd:(zr3 l).2 with
   | none=>simp
   | some d=>
    have:¬ (((zr3 l).1.length:Int)==-1)=true:=by simp
    simp [this]
theorem yr1 (l:List UInt8):Lib.cut l [47]=(zH9 l,((zr3 l).2.getD [],(zr3 l).2.isSome)):=by
 have h1:=zS1 l
 have h2:=zU3 l
 unfold Lib.cut zH9
 cases hd:(zr3 l).2 with
 | none=>
  rw [hd] at h1 h2;dsimp only at h1 h2
  rw [h1,if_neg (by omega)]
  simp [← h2]
 | some d=>
  rw [hd] at h1 h2;dsimp only at h1 h2
  rw [h1,if_pos (Int.natCast_nonneg _)]
  generalize (zr3 l).1=a at*
  subst h2
  simp
def Mx (w:World):Prop:=∃ m:Int,w.cell? ⟨0,0,none⟩=some (.int .i64 m)
theorem Mx.gr {w w':World} (h:Mx w) (g:Gr w w'):Mx w':=by
 obtain ⟨m,hm⟩:=h
 exact ⟨m,(Below.cell g (World.block_lt_of_cell? w _ hm)).trans hm⟩
theorem cut_q (q:Rat) {k:Nat} (h1:Sz k q.num) (h2:Sz k (q.den:Int)) (hk:k≤400000) {w:World} (hm:Mx w):
  Calls Tryz.prog 139 #[.string ⟨(za3 q).toArray⟩,.string ⟨#[47]⟩] w fun e w'=>e=.returned (.tuple #[.string ⟨(Lib.itoa q.num).toArray⟩,.string ⟨(if q.den=1 then [] else Lib.itoa (q.den:Int)).toArray⟩,.bool (decide (q.den≠1))])∧Gr w w':=by
 obtain ⟨m,hm⟩:=hm
 have hl:=zq3 h1 h2
 refine (Tryz.strings_Cut ⟨(za3 q).toArray⟩ ⟨#[47]⟩ m w (by show (za3 q).toArray.size<_;simp;omega) hm).mono ?_
 rintro e w1 ⟨he,n,rfl⟩
 refine ⟨?_,(Below.refl _ _).drewN _⟩
 rw [he]
 have e1:(⟨(za3 q).toArray⟩:ByteArray).data.toList=za3 q:=by simp
 rw [e1,show (⟨#[47]⟩:ByteArray).data.toList=[47] from rfl,yr1,zP2,zC4]
 by_cases h:q.den=1<;>simp [h]
theorem zm4 (z:Int) (w:World):Calls Tryz.prog 141 #[.string ⟨(Lib.itoa z).toArray⟩,.string ⟨#[45]⟩] w fun e w'=>e=.returned (.string ⟨(Lib.decDigits z.natAbs).toArray⟩)∧Gr w w':=by
 refine (Tryz.strings_TrimPrefix _ _ _).mono ?_
 rintro e w1 ⟨he,rfl⟩
 refine ⟨?_,Gr.refl _⟩
 rw [he]
 show Ending.returned (.string ⟨(Lib.trimPrefix (Lib.itoa z) [45]).toArray⟩)=_
 by_cases h:z<0
 ·have h1:Lib.hasPrefix (Lib.itoa z) [45]=true:=by rw [ze5 h];simp [Lib.hasPrefix]
  rw [Lib.trimPrefix,h1,if_pos rfl,ze5 h];rfl
 ·have h1:Lib.hasPrefix (Lib.itoa z) [45]=false:=by
   rw [zb7 (by omega)]
   rcases hd:Lib.decDigits z.natAbs with _ | ⟨c,l⟩
   ·rfl
   ·have hc:=zp6 z.natAbs c (by rw [hd];simp)
    have hne:¬ (45:UInt8)=c:=fun e=>by rw [← e] at hc;simp at hc
    simp [Lib.hasPrefix,List.isPrefixOf,hne]
  rw [Lib.trimPrefix,h1,if_neg (by decide),zb7 (by omega)]
theorem yr2 {l cs:List UInt8} (h:∀ c ∈ l,cs.contains c=true):Lib.trimS l cs=[]:=by
 have key:∀ {l:List UInt8},(∀ c ∈ l,cs.contains c=true)→l.dropWhile (cs.contains ·)=[]:=by
  intro l
  induction l with
  | nil=>intro _;rfl
  | cons c l ih=>intro h;rw [List.dropWhile_cons,if_pos (h c (by simp))];exact ih (fun x hx=>h x (by simp [hx]))
 unfold Lib.trimS Lib.trimRightS Lib.trimLeftS
 rw [key (l:=l.reverse) (fun c hc=>h c (by simpa using hc))]
 rfl
theorem digit_in {c:UInt8} (h:48≤c.toNat∧c.toNat≤57):[48,49,50,51,52,53,54,55,56,57].contains c=true:=by
 have:c=48∨c=49∨c=50∨c=51∨c=52∨c=53∨c=54∨c=55∨c=56∨c=57:=by
  simp only [← UInt8.toNat_inj]
  simp
  omega
 rcases this with rfl | rfl | rfl | rfl | rfl | rfl | rfl | rfl | rfl | rfl<;>decide
theorem zW7 (n:Nat) (hn:(Lib.decDigits n).length≤1000000) (w:World):
  Calls Tryz.prog 142 #[.string ⟨(Lib.decDigits n).toArray⟩,.string ⟨#[48,49,50,51,52,53,54,55,56,57]⟩] w fun e w'=>e=.returned (.string ⟨#[]⟩)∧Gr w w':=by
 refine (Any.strings_Trim_laid Tryz.lays160 (by kernel_rfl) ⟨(Lib.decDigits n).toArray⟩ ⟨#[48,49,50,51,52,53,54,55,56,57]⟩ w (by show (Lib.decDigits n).toArray.size≤_;simp;omega) (by decide) (ascii_of_all (by decide))).mono ?_
 rintro e w1 ⟨he,g⟩
 refine ⟨?_,g⟩
 rw [he,yr2 (l:=(⟨(Lib.decDigits n).toArray⟩:ByteArray).data.toList) (fun c hc=>digit_in (zp6 n c (by simpa using hc)))]
set_option maxHeartbeats 1000000 in
theorem yr3 (n:Nat) (hn:(Lib.decDigits n).length≤1000000) (w:World):
  Calls Tryz.prog 140 #[.string ⟨(Lib.decDigits n).toArray⟩] w fun e w'=>e=.returned (.bool true)∧Gr w w':=by
 obtain ⟨D,hD⟩:∃ D:ByteArray,D=⟨(Lib.decDigits n).toArray⟩:=⟨_,rfl⟩
 have hc:=zW7 n hn
 have hne:(D.toList==[])=false:=by
  rw [beq_eq_false_iff_ne,ByteArray.toList_eq,hD]
  simpa using zW4 n
 rw [← hD] at hc ⊢
 clear hD
 go_enter Tryz.func140,Tryz.ntmps140
 go_wp2_with fail
 (with_reducible refine (hc _).mono ?_)
 rintro e w1 ⟨rfl,g1⟩
 clear hc
 go_wp2
 go_ret
 exact ⟨rfl,g1⟩
theorem zN6 {p:UInt8→Bool}:∀ {l:List UInt8} {c:UInt8},c ∈ l→p c=false→c ∈ l.dropWhile p
 | [],_,h,_=>by cases h
 | x::l,c,h,hc=>by
  rw [List.dropWhile_cons]
  by_cases hx:p x=true
  ·rw [if_pos hx]
   rcases List.mem_cons.1 h with e | h
   ·rw [e,hx] at hc;cases hc
   ·exact zN6 h hc
  ·rw [if_neg hx];exact h
theorem yh4 {l cs:List UInt8} {c:UInt8} (h:c ∈ l) (hc:cs.contains c=false):Lib.trimS l cs≠[]:=by
 have h1:c ∈ Lib.trimRightS l cs:=by
  unfold Lib.trimRightS
  rw [List.mem_reverse]
  exact zN6 (by simpa using h) hc
 exact fun e=>by have:=zN6 (p:=(cs.contains ·)) h1 hc;unfold Lib.trimS Lib.trimLeftS at e;rw [e] at this;cases this
theorem yr4 (d:Nat) (hd:0<d) (hn:(Lib.decDigits d).length≤1000000) (w:World):
  Calls Tryz.prog 142 #[.string ⟨(Lib.decDigits d).toArray⟩,.string ⟨#[48]⟩] w fun e w'=>(∃ L:List UInt8,e=.returned (.string ⟨L.toArray⟩)∧L≠[])∧Gr w w':=by
 refine (Any.strings_Trim_laid Tryz.lays160 (by kernel_rfl) ⟨(Lib.decDigits d).toArray⟩ ⟨#[48]⟩ w (by show (Lib.decDigits d).toArray.size≤_;simp;omega) (by decide) (ascii_of_all (by decide))).mono ?_
 rintro e w1 ⟨he,g⟩
 obtain ⟨c,hc,h1,_⟩:=ye7 hd
 refine ⟨⟨_,he,yh4 (c:=c) (by simpa using List.mem_of_getElem? hc) ?_⟩,g⟩
 have:¬ c=48:=fun e=>by rw [e] at h1;simp at h1
 simp [this]
theorem cut_w (q:Rat) {k:Nat} (h1:Sz k q.num) (h2:Sz k (q.den:Int)) (hk:k≤400000) (hw:q.den=1) {w:World} (hm:Mx w):
  Calls Tryz.prog 139 #[.string ⟨(za3 q).toArray⟩,.string ⟨#[47]⟩] w fun e w'=>e=.returned (.tuple #[.string ⟨(Lib.itoa q.num).toArray⟩,.string ⟨([]:List UInt8).toArray⟩,.bool false])∧Gr w w':=by
 have:=cut_q q h1 h2 hk hm
 rw [if_pos hw,show decide (q.den≠1)=false by simp [hw]] at this
 exact this
theorem cut_f (q:Rat) {k:Nat} (h1:Sz k q.num) (h2:Sz k (q.den:Int)) (hk:k≤400000) (hw:¬ q.den=1) {w:World} (hm:Mx w):
  Calls Tryz.prog 139 #[.string ⟨(za3 q).toArray⟩,.string ⟨#[47]⟩] w fun e w'=>e=.returned (.tuple #[.string ⟨(Lib.itoa q.num).toArray⟩,.string ⟨(Lib.itoa (q.den:Int)).toArray⟩,.bool true])∧Gr w w':=by
 have:=cut_q q h1 h2 hk hm
 rw [if_neg hw,show decide (q.den≠1)=true by simp [hw]] at this
 exact this
theorem zF4 {k:Nat} (z:Int) (h:Sz k z) (hk:k≤400000) (w:World):
  Calls Tryz.prog 140 #[.string ⟨(Lib.decDigits z.natAbs).toArray⟩] w fun e w'=>e=.returned (.bool true)∧Gr w w':=
 yr3 _ (by have:=zx4 h;omega) w
theorem yr5 {k:Nat} (d:Nat) (h:Sz k (d:Int)) (hk:k≤400000) (w:World):
  Calls Tryz.prog 140 #[.string ⟨(Lib.itoa (d:Int)).toArray⟩] w fun e w'=>e=.returned (.bool true)∧Gr w w':=by
 have:=zF4 (d:Int) h hk w
 rw [← zb7 (by omega)] at this
 exact this
theorem zW8 {k:Nat} (d:Nat) (h:Sz k (d:Int)) (hd:0<d) (hk:k≤400000) (w:World):
  Calls Tryz.prog 142 #[.string ⟨(Lib.itoa (d:Int)).toArray⟩,.string ⟨#[48]⟩] w fun e w'=>(∃ L:List UInt8,e=.returned (.string ⟨L.toArray⟩)∧(L==[])=false)∧Gr w w':=by
 have:=yr4 d hd (by have:=zx4 h;rw [Int.natAbs_natCast] at this;omega) w
 rw [zb7 (by omega),Int.natAbs_natCast]
 refine this.mono ?_
 rintro e w1 ⟨⟨L,he,hL⟩,g⟩
 exact ⟨⟨L,he,beq_eq_false_iff_ne.2 hL⟩,g⟩
theorem zW9 {w:World} {k:Nat} {x y x2 y2:Value} {q:Rat} (h1:IsInt w k x y q.num) (h2:IsInt w k x2 y2 (q.den:Int)) (h3:64≤k):IsRat w k x y x2 y2 q:=⟨h1,⟨_,h2,.inl rfl⟩,h3⟩
theorem zX0 (q:Rat):(Int.gcd q.num (q.den:Int):Int)=1:=by
 have:=q.reduced
 show ((Nat.gcd q.num.natAbs (q.den:Int).natAbs:Nat):Int)=1
 rw [Int.natAbs_natCast]
 have h:Nat.gcd q.num.natAbs q.den=1:=this
 rw [h];rfl
theorem ratL_iz (z:Int):za3 ((z:Int):Rat)=Lib.itoa z:=zZ4 rfl
def sEq:List (List UInt8)→List (List UInt8)→Bool
 | x::xs,y::ys=>x==y&&sEq xs ys
 | _,_=>true
theorem zw6 {P:Program} {w:World} {d e:Nat} (he:P.underlying e=some .string) (hp:P.plainKey e=true) (A B:Array Value):
  ∀ (X Y:List (List UInt8)) (i0:Nat),X.length=Y.length→(∀ j x,X[j]?=some x→A[i0+j]?=some (.string ⟨x.toArray⟩))→(∀ j y,Y[j]?=some y→B[i0+j]?=some (.string ⟨y.toArray⟩))→
   (Op.eqItems (d+1) e 1 A B (List.range' i0 X.length)).run P w=.ok (sEq X Y) w
 | [],_,_,_,_,_=>by simp [Op.eqItems,sEq]
 | x::xs,[],_,h,_,_=>by simp at h
 | x::xs,y::ys,i0,h,hA,hB=>by
  have h1:A[i0]?=some (.string ⟨x.toArray⟩):=hA 0 x rfl
  have h2:B[i0]?=some (.string ⟨y.toArray⟩):=hB 0 y rfl
  have ih:=zw6 (w:=w) (d:=d) he hp A B xs ys (i0+1) (by simpa using h) (fun j z hj=>by have:=hA (j+1) z hj;rwa [show i0+(j+1)=i0+1+j by omega] at this)
   (fun j z hj=>by have:=hB (j+1) z hj;rwa [show i0+(j+1)=i0+1+j by omega] at this)
  have e:((⟨x.toArray⟩:ByteArray).toList==(⟨y.toArray⟩:ByteArray).toList)=(x==y):=by rw [ByteArray.toList_eq,ByteArray.toList_eq]
  rw [List.length_cons,List.range'_succ]
  simp only [Op.eqItems,Sem.run_bind,Nat.mul_one,run_part_plain w hp h1,run_part_plain w hp h2,Result.andThen_ok,run_equalIn_string w d _ _ _ he,e,sEq]
  cases hxy:(x==y) with
  | true=>simpa using ih
  | false=>simp
section
variable {P:Program} {a:Act} {o:Oper} {w:World}
theorem zI6 {t e:Nat} (X Y:List (List UInt8)) (hu:P.underlying t=some (.array X.length e)) (hn:X.length=Y.length)
  (he:(P.underlying e,(P.info? e).isSome,P.cellsOf e,P.plainKey e)=(some .string,true,1,true)):
  (Op.equal t (.agg (X.map fun l=>Value.string ⟨l.toArray⟩).toArray) (.agg (Y.map fun l=>Value.string ⟨l.toArray⟩).toArray)).run P w=.ok (sEq X Y) w:=by
 simp only [Prod.mk.injEq] at he
 obtain ⟨h1,h2,h3,h4⟩:=he
 obtain ⟨i,hi⟩:=Option.isSome_iff_exists.1 h2
 show (Op.equalIn (9999+1) t _ _).run P w=_
 rw [run_equalIn_array w 9999 _ _ hu hi,h3,List.range_eq_range']
 exact zw6 (d:=9998) h1 h4 _ _ X Y 0 hn (fun j x hj=>by simp [hj]) (fun j y hj=>by simp [hj])
theorem yj2 (t t2 e:Nat) (x y:Operand) (X Y:List (List UInt8)) (hop:o.op=.binOp .eql t x y t2) (hx:a.eval x=.agg (X.map fun l=>Value.string ⟨l.toArray⟩).toArray) (hy:a.eval y=.agg (Y.map fun l=>Value.string ⟨l.toArray⟩).toArray)
  (hu:(P.underlying t,decide (X.length=Y.length))=(some (.array X.length e),true)) (he:(P.underlying e,(P.info? e).isSome,P.cellsOf e,P.plainKey e)=(some .string,true,1,true)) (hg:P.eqGuardType P.depth t=false):
  RunV P a o w (.bool (sEq X Y)):=by
 simp only [Prod.mk.injEq,decide_eq_true_eq] at hu
 have h:=zI6 (w:=w) X Y hu.1 hu.2 he
 unfold RunV execOp
 simp only [hop,hx,hy]
 simp [go_sem,binOp,eqGuard,hg,h]
theorem rv_ssn (t t2 e:Nat) (x y:Operand) (X Y:List (List UInt8)) (hop:o.op=.binOp .neq t x y t2) (hx:a.eval x=.agg (X.map fun l=>Value.string ⟨l.toArray⟩).toArray) (hy:a.eval y=.agg (Y.map fun l=>Value.string ⟨l.toArray⟩).toArray)
  (hu:(P.underlying t,decide (X.length=Y.length))=(some (.array X.length e),true)) (he:(P.underlying e,(P.info? e).isSome,P.cellsOf e,P.plainKey e)=(some .string,true,1,true)) (hg:P.eqGuardType P.depth t=false):
  RunV P a o w (.bool (!sEq X Y)):=by
 simp only [Prod.mk.injEq,decide_eq_true_eq] at hu
 have h:=zI6 (w:=w) X Y hu.1 hu.2 he
 unfold RunV execOp
 simp only [hop,hx,hy]
 simp [go_sem,binOp,eqGuard,hg,h]
end
abbrev RS (k:Nat) (a:Rat):Prop:=Sz k a.num∧Sz k (a.den:Int)
theorem RS.add {k m:Nat} {a b:Rat} (ha:RS k a) (hb:RS m b):RS (k+m+1) (a+b):=by
 rw [← zN4]
 have h:=(ha.1.mul hb.2).add' (by have:=hb.1.mul ha.2;rw [Nat.add_comm] at this;exact this)
 exact zD6 h ((ha.2.mul hb.2).mono (by omega)) (Int.ne_of_gt (zB3 a b))
theorem RS.mul {k m:Nat} {a b:Rat} (ha:RS k a) (hb:RS m b):RS (k+m) (a*b):=by
 rw [← zN5]
 exact zD6 (ha.1.mul hb.1) (ha.2.mul hb.2) (Int.ne_of_gt (zB3 a b))
theorem RS.neg {k:Nat} {a:Rat} (h:RS k a):RS k (-a):=yq8 h
theorem RS.sub {k m:Nat} {a b:Rat} (ha:RS k a) (hb:RS m b):RS (k+m+1) (a - b):=by
 rw [Rat.sub_eq_add_neg];exact ha.add hb.neg
theorem RS.div {k m:Nat} {a b:Rat} (ha:RS k a) (hb:RS m b) (h0:b.num≠0):RS (k+m) (a/b):=by
 rw [← zW6]
 exact zD6 (ha.1.mul hb.2) (ha.2.mul hb.1) (Int.mul_ne_zero (Int.ne_of_gt (zo4 a)) h0)
theorem RS.int {k:Nat} {z:Int} (h:Sz k z) (hk:0<k):RS k (z:Rat):=⟨h,show (1:Nat)<2 ^ k from Nat.one_lt_two_pow (by omega)⟩
theorem RS.mono {k m:Nat} {a:Rat} (h:RS k a) (hk:k≤m):RS m a:=⟨h.1.mono hk,h.2.mono hk⟩
def zm7:List Int→List Int→Bool
 | x::xs,y::ys=>x==y&&zm7 xs ys
 | _,_=>true
def eqL:Bool→List Int→List Int→Bool
 | b,x::xs,y::ys=>eqL (b&&x==y) xs ys
 | b,_,_=>b
theorem yj1:∀ (X Y:List Int) (b:Bool),eqL b X Y=(b&&zm7 X Y)
 | [],_,b=>by simp [eqL,zm7]
 | _::_,[],b=>by simp [eqL,zm7]
 | x::xs,y::ys,b=>by rw [eqL,yj1 xs ys,zm7,Bool.and_assoc]
def zA4:List Int→List Int→Bool
 | x::xs,y::ys=>eqL (x==y) xs ys
 | _,_=>true
theorem zP0 (X Y:List Int):zA4 X Y=zm7 X Y:=by
 cases X with
 | nil=>cases Y<;>rfl
 | cons x xs=>cases Y with
  | nil=>rfl
  | cons y ys=>rw [zA4,yj1,zm7]

theorem zC1 {P:Program} {w:World} {d e:Nat} {k:IntKind} (he:P.underlying e=some (.int k)) (hp:P.plainKey e=true) (A B:Array Value):
  ∀ (X Y:List Int) (i0:Nat),X.length=Y.length→(∀ j x,X[j]?=some x→A[i0+j]?=some (.int k x))→(∀ j y,Y[j]?=some y→B[i0+j]?=some (.int k y))→
   (Op.eqItems (d+1) e 1 A B (List.range' i0 X.length)).run P w=.ok (zm7 X Y) w
 | [],_,_,_,_,_=>by simp [Op.eqItems,zm7]
 | x::xs,[],_,h,_,_=>by simp at h
 | x::xs,y::ys,i0,h,hA,hB=>by
  have h1:A[i0]?=some (.int k x):=hA 0 x rfl
  have h2:B[i0]?=some (.int k y):=hB 0 y rfl
  have ih:=zC1 (w:=w) (d:=d) he hp A B xs ys (i0+1) (by simpa using h) (fun j z hj=>by have:=hA (j+1) z hj;rwa [show i0+(j+1)=i0+1+j by omega] at this)
   (fun j z hj=>by have:=hB (j+1) z hj;rwa [show i0+(j+1)=i0+1+j by omega] at this)
  rw [List.length_cons,List.range'_succ]
  simp only [Op.eqItems,Sem.run_bind,Nat.mul_one,run_part_plain w hp h1,run_part_plain w hp h2,Result.andThen_ok,run_equalIn_int w d e k k x y he,zm7]
  cases hxy:(x==y) with
  | true=>simpa using ih
  | false=>simp

section
variable {P:Program} {a:Act} {o:Oper} {w:World}
theorem zP1 {t e:Nat} {k:IntKind} (X Y:List Int) (hu:P.underlying t=some (.array X.length e)) (hn:X.length=Y.length)
  (he:(P.underlying e,(P.info? e).isSome,P.cellsOf e,P.plainKey e)=(some (.int k),true,1,true)):
  (Op.equal t (.agg (X.map (Value.int k)).toArray) (.agg (Y.map (Value.int k)).toArray)).run P w=.ok (zm7 X Y) w:=by
 simp only [Prod.mk.injEq] at he
 obtain ⟨h1,h2,h3,h4⟩:=he
 obtain ⟨i,hi⟩:=Option.isSome_iff_exists.1 h2
 show (Op.equalIn (9999+1) t _ _).run P w=_
 rw [run_equalIn_array w 9999 _ _ hu hi,h3,List.range_eq_range']
 exact zC1 (d:=9998) h1 h4 _ _ X Y 0 hn (fun j x hj=>by simp [hj]) (fun j y hj=>by simp [hj])
theorem zL4 (t t2 e:Nat) {k:IntKind} (x y:Operand) (X Y:List Int) (hop:o.op=.binOp .eql t x y t2) (hx:a.eval x=.agg (X.map (Value.int k)).toArray) (hy:a.eval y=.agg (Y.map (Value.int k)).toArray)
  (hu:(P.underlying t,decide (X.length=Y.length))=(some (.array X.length e),true)) (he:(P.underlying e,(P.info? e).isSome,P.cellsOf e,P.plainKey e)=(some (.int k),true,1,true)) (hg:P.eqGuardType P.depth t=false):
  RunV P a o w (.bool (zA4 X Y)):=by
 simp only [Prod.mk.injEq,decide_eq_true_eq] at hu
 have h:=zP1 (w:=w) X Y hu.1 hu.2 he
 rw [zP0]
 unfold RunV execOp
 simp only [hop,hx,hy]
 simp [go_sem,binOp,eqGuard,hg,h]
theorem rv_arrne (t t2 e:Nat) {k:IntKind} (x y:Operand) (X Y:List Int) (hop:o.op=.binOp .neq t x y t2) (hx:a.eval x=.agg (X.map (Value.int k)).toArray) (hy:a.eval y=.agg (Y.map (Value.int k)).toArray)
  (hu:(P.underlying t,decide (X.length=Y.length))=(some (.array X.length e),true)) (he:(P.underlying e,(P.info? e).isSome,P.cellsOf e,P.plainKey e)=(some (.int k),true,1,true)) (hg:P.eqGuardType P.depth t=false):
  RunV P a o w (.bool (!zA4 X Y)):=by
 simp only [Prod.mk.injEq,decide_eq_true_eq] at hu
 have h:=zP1 (w:=w) X Y hu.1 hu.2 he
 rw [zP0]
 unfold RunV execOp
 simp only [hop,hx,hy]
 simp [go_sem,binOp,eqGuard,hg,h]
end
end Go.Proofs.YtaldbfflkpgfoaaGreatDoor
