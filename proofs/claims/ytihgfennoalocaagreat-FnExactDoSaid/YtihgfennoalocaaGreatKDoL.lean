/-
  The law of Do, without its arguments.
-/
import Derived.Test.YtihgfennoalocaaGreatKB47
set_option maxRecDepth 100000
set_option maxHeartbeats 16000000
namespace Go.Proofs.YtihgfennoalocaaGreat
open Go Go.RowKit Tryz
section
theorem Qwc(l:List AV):(one l).den=one (denL l):=by
 match l with
 | []=>rfl
 | [x]=>rfl
 | x::y::zs=>rfl
theorem Qv3{P:Program}{f:FuncId}{args:List AV}{rs:List AV}(h:DC P f args rs):DC P f args (denL rs):=by
 obtain⟨h1,h2⟩:=h
 refine⟨h1,fun w Zp eh us hm hk hs=>?_⟩
 obtain⟨h3,h4⟩:=h2 w Zp eh us hm hk hs
 refine⟨h3,h4.mono fun e w' ⟨i,v,en,h5,he,m,hp,hr⟩=>⟨i,v,en,h5,he,m,hp,?_⟩⟩
 rw[<-Qwc]
 exact AV.shows_den _ _ hr
attribute [local irreducible] AWp QJ OpOk ACalls ChA QsOk MCalls NCalls EnC PY

theorem Zm.d{w:Wld}(h:Zm 1048576 w):QvO w:=⟨h.v,Xao h.codes (by omega)⟩
theorem QvO.w{w:Wld}(h:QvO w):Zm 1000000000 w:=⟨h.v.first.mono (by omega),h.v.ctl.mono (by omega),Xao h.v.bytes (by omega),Xao h.codes (by omega)⟩
theorem Qwb:QvO zW:=⟨⟨QjN _,⟨QjN _,QjN _,Xab _⟩,Xab _⟩,Xab _⟩
theorem Qwd{w:Wld}{x:QvV}(h:Qpz w):Qpz (QvN w x):=by
 have hz:JI 1048576 zC:=⟨QjN _,QjN _,Xab _⟩
 unfold QvN
 repeat' split
 ·refine⟨h.first,?_,h.bytes⟩
  cases ht:(WE w.ctl x.cmd).1 with
  | none=>exact h.ctl
  | some d=>
   have:=(XX h.ctl ht).1
   exact⟨this.first,this.state,this.jn⟩
 ·rename_i d ht
  have:=(XX h.ctl ht).2.1
  refine⟨h.first,hz,?_⟩
  dsimp only
  exact Xao (Xcr _ _) (by omega)
 ·exact⟨h.first,h.ctl,h.bytes⟩
 ·exact⟨h.first,hz,h.ctl.jn⟩
 ·exact h
 ·refine⟨h.first,?_,Xab _⟩
  cases ht:(VP w.first w.bytes).1 with
  | none=>exact hz
  | some c=>exact QgK h.first h.bytes c ht
 ·exact h
theorem Qv2(w:Wld)(x:QvV):(QvN w x).codes.length<=w.codes.length+1:=by
 unfold QvN
 repeat' split
 all_goals simp
theorem Qwf{w:Wld}{x:QvV}(h:QvQ w x=1):(QvN w x).ctl=zC:=by
 unfold QvQ at h
 unfold QvN
 repeat' split at h
 all_goals first|cases h|skip
 ·rename_i hu h1 h2 h3
  rw[if_pos hu,if_neg h1,if_pos h2]
  obtain⟨d,hd⟩:=Xbo.1 h3
  rw[hd]
 ·rename_i hu h1 h2 h3
  rw[if_pos hu,if_neg h1,if_neg h2,if_pos h3]
theorem Qwg{w:Wld}{x:QvV}(h:QvQ w x=2):(QvN w x).bytes=[]:=by
 unfold QvQ at h
 unfold QvN
 repeat' split at h
 all_goals first|cases h|skip
 rename_i hu h4
 rw[if_neg hu,if_pos h4]
theorem lawDo_0{w:Wld}{x:QvV}{r:Wld}(h:Zm 9223372036854775807 w)(hS:Zm 1048576 w)(hr:QvO r)(c1:DC Tryz.prog 38 [wldA w,QvD x] [wldA r])(c2:zAc 40 [wldA w,QvD x] [Qv5 r] (Qwa r)):zAc 8 [wldA w,QvD x] [.d (.b true)] []:=by
 refine Qmu tt func8 rfl rfl rfl (fun w0 Z=>?_)
 have hD:=hS.d
 have c3:DC Tryz.prog 40 [wldA w,QvD x] [wldA r]:=Qv3 (dc_a c2)
 repeat'(first|refine zst ?_|(refine zhm fun hb=>?_;try exact zab)|(apply QB 10;kernel_rfl;exact rfl)|refine zdr ?_|(apply zch;exact zcg)|refine Qmj.mk fun w0 Z O=>?_|exact zhk|refine zg3 ?_ ?_|(apply YE;first|(refine kc (t:=24) (QvS hS) rfl rfl ?_)|(refine kc (t:=28) c2 rfl rfl ?_))|refine zln fun _=>?_|refine zop ?_|refine kc (QvU) rfl rfl ?_|refine kc (QhA (w:=r) hr.w) rfl rfl ?_|refine kc (QhA (w:=w) (hS.mono (by omega))) rfl rfl ?_|refine kc (QvM (w:=r) (k:=1) hr (by omega)) rfl rfl ?_|(refine km [] (QhC h) rfl rfl (fun i hi=>?_);(try dsimp only at hi))|(refine km [] (Qoa hS) rfl rfl (fun i hi=>?_);(try dsimp only at hi))|(refine km [] (c1) rfl rfl (fun i hi=>?_);(try dsimp only at hi))|(refine km [] (c3) rfl rfl (fun i hi=>?_);(try dsimp only at hi))|(refine km [24,1024,2024,3024,4024,5024,6024,7024,8024,9024,10024,11024,12024,13024,14024,15024,16024,17024,18024,19024,20024] (QvP (w:=w) (k:=1) hD (by omega)) rfl rfl (fun i hi=>?_);(try dsimp only at hi))|(refine km [28,1028,2028,3028,4028,5028,6028,7028,8028,9028,10028,11028,12028,13028,14028,15028,16028,17028,18028,19028,20028] (QvP (w:=r) (k:=1) hr (by omega)) rfl rfl (fun i hi=>?_);(try dsimp only at hi))|refine kq (QvU) rfl rfl ?_|refine kq (QhA (w:=r) hr.w) rfl rfl ?_|refine kq (QhA (w:=w) (hS.mono (by omega))) rfl rfl ?_|refine kq (QvM (w:=r) (k:=1) hr (by omega)) rfl rfl ?_|fail)
 all_goals
  refine zr [] ?_ ?_
  repeat'(first|apply And.intro|exact zes|refine zet ?_|exact ze0|refine ze1 ?_|refine zei ?_ ?_|exact rfl|trivial)
  all_goals exact zp rfl
theorem lawDo_1{w:Wld}{x:QvV}{up:Bool}{s:Qd}{b:List UInt8}{cs:List Int}(h:Zm 9223372036854775807 w)(hS:Zm 1048576 w)(hr:QvO ⟨up,s,zC,b,cs⟩)(c1:DC Tryz.prog 38 [wldA w,QvD x] [wldA ⟨up,s,zC,b,cs⟩])(c2:zAc 40 [wldA w,QvD x] [Qwl ⟨up,s,zC,b,cs⟩] (Qwh ⟨up,s,zC,b,cs⟩)):zAc 8 [wldA w,QvD x] [.d (.b true)] []:=by
 refine Qmu tt func8 rfl rfl rfl (fun w0 Z=>?_)
 have hD:=hS.d
 have c3:DC Tryz.prog 40 [wldA w,QvD x] [wldA ⟨up,s,zC,b,cs⟩]:=Qv3 (dc_a c2)
 repeat'(first|refine zst ?_|(refine zhm fun hb=>?_;try exact zab)|(apply QB 10;kernel_rfl;exact rfl)|refine zdr ?_|(apply zch;exact zcg)|refine Qmj.mk fun w0 Z O=>?_|exact zhk|refine zg3 ?_ ?_|(apply YE;first|(refine kc (t:=24) (QvS hS) rfl rfl ?_)|(refine kc (t:=28) c2 rfl rfl ?_))|refine zln fun _=>?_|refine zop ?_|refine kc (QvU) rfl rfl ?_|refine kc (QhA (w:=⟨up,s,zC,b,cs⟩) hr.w) rfl rfl ?_|refine kc (QhA (w:=w) (hS.mono (by omega))) rfl rfl ?_|refine kc (QvM (w:=⟨up,s,zC,b,cs⟩) (k:=1) hr (by omega)) rfl rfl ?_|(refine km [] (QhC h) rfl rfl (fun i hi=>?_);(try dsimp only at hi))|(refine km [] (Qoa hS) rfl rfl (fun i hi=>?_);(try dsimp only at hi))|(refine km [] (c1) rfl rfl (fun i hi=>?_);(try dsimp only at hi))|(refine km [] (c3) rfl rfl (fun i hi=>?_);(try dsimp only at hi))|(refine km [24,1024,2024,3024,4024,5024,6024,7024,8024,9024,10024,11024,12024,13024,14024,15024,16024,17024,18024,19024,20024] (QvP (w:=w) (k:=1) hD (by omega)) rfl rfl (fun i hi=>?_);(try dsimp only at hi))|(refine km [28,1028,2028,3028,4028,5028,6028,7028] (QvZ (k:=1) hr (by omega)) rfl rfl (fun i hi=>?_);(try dsimp only at hi))|refine kq (QvU) rfl rfl ?_|refine kq (QhA (w:=⟨up,s,zC,b,cs⟩) hr.w) rfl rfl ?_|refine kq (QhA (w:=w) (hS.mono (by omega))) rfl rfl ?_|refine kq (QvM (w:=⟨up,s,zC,b,cs⟩) (k:=1) hr (by omega)) rfl rfl ?_|fail)
 all_goals
  refine zr [] ?_ ?_
  repeat'(first|apply And.intro|exact zes|refine zet ?_|exact ze0|refine ze1 ?_|refine zei ?_ ?_|exact rfl|trivial)
  all_goals exact zp rfl
theorem lawDo_2{w:Wld}{x:QvV}{up:Bool}{s:Qd}{c:Ctl}{cs:List Int}(h:Zm 9223372036854775807 w)(hS:Zm 1048576 w)(hr:QvO ⟨up,s,c,[],cs⟩)(c1:DC Tryz.prog 38 [wldA w,QvD x] [wldA ⟨up,s,c,[],cs⟩])(c2:zAc 40 [wldA w,QvD x] [Qwk ⟨up,s,c,[],cs⟩] (Qwm ⟨up,s,c,[],cs⟩)):zAc 8 [wldA w,QvD x] [.d (.b true)] []:=by
 refine Qmu tt func8 rfl rfl rfl (fun w0 Z=>?_)
 have hD:=hS.d
 have c3:DC Tryz.prog 40 [wldA w,QvD x] [wldA ⟨up,s,c,[],cs⟩]:=Qv3 (dc_a c2)
 repeat'(first|refine zst ?_|(refine zhm fun hb=>?_;try exact zab)|(apply QB 10;kernel_rfl;exact rfl)|refine zdr ?_|(apply zch;exact zcg)|refine Qmj.mk fun w0 Z O=>?_|exact zhk|refine zg3 ?_ ?_|(apply YE;first|(refine kc (t:=24) (QvS hS) rfl rfl ?_)|(refine kc (t:=28) c2 rfl rfl ?_))|refine zln fun _=>?_|refine zop ?_|refine kc (QvU) rfl rfl ?_|refine kc (QhA (w:=⟨up,s,c,[],cs⟩) hr.w) rfl rfl ?_|refine kc (QhA (w:=w) (hS.mono (by omega))) rfl rfl ?_|refine kc (QvM (w:=⟨up,s,c,[],cs⟩) (k:=1) hr (by omega)) rfl rfl ?_|(refine km [] (QhC h) rfl rfl (fun i hi=>?_);(try dsimp only at hi))|(refine km [] (Qoa hS) rfl rfl (fun i hi=>?_);(try dsimp only at hi))|(refine km [] (c1) rfl rfl (fun i hi=>?_);(try dsimp only at hi))|(refine km [] (c3) rfl rfl (fun i hi=>?_);(try dsimp only at hi))|(refine km [24,1024,2024,3024,4024,5024,6024,7024,8024,9024,10024,11024,12024,13024,14024,15024,16024,17024,18024,19024,20024] (QvP (w:=w) (k:=1) hD (by omega)) rfl rfl (fun i hi=>?_);(try dsimp only at hi))|(refine km [28,1028,2028,3028,4028,5028,6028,7028,8028,9028,10028,11028,12028,13028,14028,15028,16028,17028,18028,19028] (Qv0 (k:=1) hr (by omega)) rfl rfl (fun i hi=>?_);(try dsimp only at hi))|refine kq (QvU) rfl rfl ?_|refine kq (QhA (w:=⟨up,s,c,[],cs⟩) hr.w) rfl rfl ?_|refine kq (QhA (w:=w) (hS.mono (by omega))) rfl rfl ?_|refine kq (QvM (w:=⟨up,s,c,[],cs⟩) (k:=1) hr (by omega)) rfl rfl ?_|fail)
 all_goals
  refine zr [] ?_ ?_
  repeat'(first|apply And.intro|exact zes|refine zet ?_|exact ze0|refine ze1 ?_|refine zei ?_ ?_|exact rfl|trivial)
  all_goals exact zp rfl
theorem lawDo_3{w:Wld}{x:QvV}(h:Zm 9223372036854775807 w)(hS:Zm 1048576 w)(hr:QvO zW)(c1:DC Tryz.prog 38 [wldA w,QvD x] [wldA zW])(c2:zAc 40 [wldA w,QvD x] [Qwo] ([])):zAc 8 [wldA w,QvD x] [.d (.b true)] []:=by
 refine Qmu tt func8 rfl rfl rfl (fun w0 Z=>?_)
 have hD:=hS.d
 have c3:DC Tryz.prog 40 [wldA w,QvD x] [wldA zW]:=Qv3 (dc_a c2)
 repeat'(first|refine zst ?_|(refine zhm fun hb=>?_;try exact zab)|(apply QB 10;kernel_rfl;exact rfl)|refine zdr ?_|(apply zch;exact zcg)|refine Qmj.mk fun w0 Z O=>?_|exact zhk|refine zg3 ?_ ?_|(apply YE;first|(refine kc (t:=24) (QvS hS) rfl rfl ?_)|(refine kc (t:=28) c2 rfl rfl ?_))|refine zln fun _=>?_|refine zop ?_|refine kc (QvU) rfl rfl ?_|refine kc (QhA (w:=zW) hr.w) rfl rfl ?_|refine kc (QhA (w:=w) (hS.mono (by omega))) rfl rfl ?_|refine kc (QvT (k:=1)) rfl rfl ?_|refine kc (QvM (w:=zW) (k:=1) hr (by omega)) rfl rfl ?_|(refine km [] (QhC h) rfl rfl (fun i hi=>?_);(try dsimp only at hi))|(refine km [] (Qoa hS) rfl rfl (fun i hi=>?_);(try dsimp only at hi))|(refine km [] (c1) rfl rfl (fun i hi=>?_);(try dsimp only at hi))|(refine km [] (c3) rfl rfl (fun i hi=>?_);(try dsimp only at hi))|(refine km [24,1024,2024,3024,4024,5024,6024,7024,8024,9024,10024,11024,12024,13024,14024,15024,16024,17024,18024,19024,20024] (QvP (w:=w) (k:=1) hD (by omega)) rfl rfl (fun i hi=>?_);(try dsimp only at hi))|refine kq (QvU) rfl rfl ?_|refine kq (QhA (w:=zW) hr.w) rfl rfl ?_|refine kq (QhA (w:=w) (hS.mono (by omega))) rfl rfl ?_|refine kq (QvT (k:=1)) rfl rfl ?_|refine kq (QvM (w:=zW) (k:=1) hr (by omega)) rfl rfl ?_|fail)
 all_goals
  refine zr [] ?_ ?_
  repeat'(first|apply And.intro|exact zes|refine zet ?_|exact ze0|refine ze1 ?_|refine zei ?_ ?_|exact rfl|trivial)
  all_goals exact zp rfl
theorem lawDo_n{w:Wld}{x:QvV}(h:Zm 9223372036854775807 w)(hS:¬Zm 1048576 w):zAc 8 [wldA w,QvD x] [.d (.b true)] []:=by
 refine Qmu tt func8 rfl rfl rfl (fun w0 Z=>?_)
 repeat'(first|refine zst ?_|(refine zhm fun hb=>?_;try exact zab)|refine zdr ?_|(apply zch;exact zcg)|refine Qmj.mk fun w0 Z O=>?_|exact zhk|refine zg3 ?_ ?_|refine zln fun _=>?_|refine zop ?_|(refine km [] (QhC h) rfl rfl (fun i hi=>?_);(try dsimp only at hi))|fail)
 all_goals first|(exfalso;exact hS (hi.2 (by omega)))|skip
 refine zr [] ?_ ?_
 repeat'(first|apply And.intro|exact zes|refine zet ?_|exact ze0|refine ze1 ?_|refine zei ?_ ?_|exact rfl|trivial)
 all_goals exact zp rfl
theorem lawDo_e{w:Wld}{x:QvV}(h:Zm 9223372036854775807 w):zAc 8 [wldA w,QvD x] [.d (.b true)] []:=by
 by_cases hS:Zm 1048576 w
 ·have hD:=hS.d
  have c1:=do_s (x:=x) hD
  have c2:=do_e (x:=x) hD
  have hr:QvO (doO w x):=by
   unfold doO
   split
   ·have:=Qv2 w x
    have:=hS.codes
    exact⟨Qwd hD.v,by omega⟩
   ·exact Qwb
  have h1:doS w x=1->(doO w x).ctl=zC:=by
   unfold doS doO
   intro hd
   split at hd
   ·rename_i hw;rw[if_pos hw];exact Qwf hd
   ·cases hd
  have h2:doS w x=2->(doO w x).bytes=[]:=by
   unfold doS doO
   intro hd
   split at hd
   ·rename_i hw;rw[if_pos hw];exact Qwg hd
   ·cases hd
  have h3:doS w x=3->doO w x=zW:=by
   unfold doS doO
   intro hd
   split at hd
   ·rcases QvX w x with e|e|e <;> rw[e]at hd <;> cases hd
   ·rename_i hw;rw[if_neg hw]
  have hn:doS w x=0\/doS w x=1\/doS w x=2\/doS w x=3:=by
   unfold doS
   split
   ·rcases QvX w x with e|e|e <;> rw[e] <;> simp
   ·simp
  generalize doS w x=n at c2 h1 h2 h3 hn
  generalize doO w x=r at c1 c2 hr h1 h2 h3
  rcases hn with rfl|rfl|rfl|rfl
  ·exact lawDo_0 h hS hr c1 c2
  ·obtain⟨up,s,c,b,cs⟩:=r
   obtain rfl:c=zC:=h1 rfl
   exact lawDo_1 h hS hr c1 c2
  ·obtain⟨up,s,c,b,cs⟩:=r
   obtain rfl:b=[]:=h2 rfl
   exact lawDo_2 h hS hr c1 c2
  ·obtain rfl:r=zW:=h3 rfl
   exact lawDo_3 h hS hr c1 c2
 ·exact lawDo_n h hS
end
end Go.Proofs.YtihgfennoalocaaGreat
