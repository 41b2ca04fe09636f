/- A framework for proofs about Go programs in this model: part S. Everything is proved; no condition is added. -/
import Derived.WideShapes
import Derived.WideKeyArgs
import Derived.Stop.LaidErr
import Derived.Lib.LaidTab
import Derived.Test.YtgliijeioigckaaGreatDoorFwR
import Derived.Test.YtgliijeioigckaaGreatDoorFwI
set_option linter.unusedVariables false
set_option linter.unusedSimpArgs false
namespace Go.Proofs.Tryz
open Go Go.Fw
set_option maxHeartbeats 1000000
noncomputable def hHd:Tr TC:=(.node (.node (.node .nil 27 .byte .nil) 41 .str .nil) 45 .node (.node .nil 122 .spot .nil))
noncomputable def hOd:Tr OH:=(.node (.node (.node (.node (.node (.node .nil 327693 (.cells [(4,.node)]) .nil) 983044 (.cells [(4,.node)]) .nil) 1048580 (.cells [(4,.node)]) (.node .nil 1179652 (.cells [(4,.node)]) .nil)) 1376258 (.cells [(4,.node)]) (.node (.node .nil 2162690 (.cells [(4,.node)]) .nil) 2162692 (.cells [(7,.spot)]) (.node .nil 2228228 (.val .str) .nil))) 2228230 (.cells [(4,.node)]) (.node (.node (.node (.node .nil 2687013 (.build .str) .nil) 2818052 (.cells [(4,.node)]) .nil) 2818054 (.cells [(4,.node)]) (.node .nil 3014673 (.build .byte) .nil)) 4063234 (.cells [(7,.spot)]) (.node (.node .nil 4063236 (.cells [(7,.spot)]) .nil) 5046285 (.build .byte) (.node .nil 5111819 (.build .byte) .nil)))) 5111822 .res (.node (.node (.node (.node (.node .nil 5111825 (.build .byte) .nil) 5373956 (.cells [(4,.node)]) .nil) 5373963 (.cells [(4,.node)]) (.node .nil 5373965 (.cells [(4,.node)]) .nil)) 5373990 (.agg [(4,.node)]) (.node (.node .nil 5373994 (.build .byte) .nil) 5636110 (.build .byte) (.node .nil 8585224 (.cells [(7,.spot)]) .nil))) 8585230 (.cells [(7,.spot),(6,.node)]) (.node (.node (.node (.node .nil 8585231 (.cells [(7,.spot)]) .nil) 8585289 (.agg [(6,.node),(7,.spot)]) .nil) 9437188 (.build .byte) (.node .nil 9568277 (.build .byte) .nil)) 13631492 (.cells [(7,.spot)]) (.node (.node .nil 14548999 (.build .byte) .nil) 14549002 .res (.node .nil 14549006 (.build .byte) .nil)))))
noncomputable def k_cref01_Uint(N:Nat):Ctr:=⟨[.hole (.sl .byte)],.tup [.hole (.int .u64),.hole .bool],fun(x:Bs)=>F_cref01_Uint N x⟩
noncomputable def x_cref01_Uint(N:Nat) (L:List LoopC):Cx:=⟨prog,T,hHd,hOd,[],[],[],L,.nil⟩
noncomputable def h_cref01_Uint_l0:Pat:=⟨[(0,.hole (.sl .byte))],[]⟩
noncomputable def q_cref01_Uint_l0:Exits:=[(.exit 0,⟨[(0,.hole (.sl .byte))],[]⟩)]
noncomputable def e_cref01_Uint_l0(N n:Nat):LoopC:=⟨219,1,0,h_cref01_Uint_l0,q_cref01_Uint_l0,fun x=>F_cref01_Uint_l0 N n x⟩
theorem l_cref01_Uint_l0(N:Nat):∀n,LOk prog (e_cref01_Uint_l0 N n):=loopc_ok (cx:=x_cref01_Uint N []) tok mixed trivial trivial trivial trivial 219 1 0 h_cref01_Uint_l0 q_cref01_Uint_l0 (fun n x=>F_cref01_Uint_l0 N n x) (by kernel_rfl) (by kernel_rfl) (fun _=>rfl) (by intro n x;kernel_rfl)
noncomputable def h_cref01_Uint_l1:Pat:=⟨[(0,.hole (.sl .byte)),(4,.hole (.int .u64)),(5,.hole (.int .i64))],[]⟩
noncomputable def q_cref01_Uint_l1:Exits:=[(.exit 2,⟨[(4,.hole (.int .u64))],[]⟩)]
noncomputable def e_cref01_Uint_l1(N n:Nat):LoopC:=⟨219,7,0,h_cref01_Uint_l1,q_cref01_Uint_l1,fun x=>F_cref01_Uint_l1 N n x⟩
theorem l_cref01_Uint_l1(N:Nat):∀n,LOk prog (e_cref01_Uint_l1 N n):=loopc_ok (cx:=x_cref01_Uint N [e_cref01_Uint_l0 N N]) tok mixed trivial trivial trivial ⟨l_cref01_Uint_l0 N N,trivial⟩ 219 7 0 h_cref01_Uint_l1 q_cref01_Uint_l1 (fun n x=>F_cref01_Uint_l1 N n x) (by kernel_rfl) (by kernel_rfl) (fun _=>rfl) (by intro n x;kernel_rfl)
theorem c_cref01_Uint(N:Nat):CtrOk prog 219 (k_cref01_Uint N):=fun_ok (cx:=x_cref01_Uint N [e_cref01_Uint_l0 N N,e_cref01_Uint_l1 N N]) tok mixed trivial trivial trivial ⟨l_cref01_Uint_l0 N N,l_cref01_Uint_l1 N N,trivial⟩ 219 _ (by kernel_rfl) (by kernel_rfl) (by intro x;kernel_rfl)
noncomputable def k_cref01_Compare(N:Nat):Ctr:=⟨[.hole (.sl .byte),.hole (.sl .byte)],.hole (.int .i64),fun(x:Bs×Bs)=>F_cref01_Compare N x.1 x.2⟩
noncomputable def x_cref01_Compare(N:Nat) (L:List LoopC):Cx:=⟨prog,T,hHd,hOd,[],[],[],L,.nil⟩
noncomputable def h_cref01_Compare_l0:Pat:=⟨[(0,.hole (.sl .byte)),(1,.hole (.sl .byte)),(5,.hole (.int .i64))],[]⟩
noncomputable def q_cref01_Compare_l0:Exits:=[(.ret,⟨[(4,.hole (.int .i64))],[]⟩),(.exit 0,⟨[(0,.hole (.sl .byte)),(1,.hole (.sl .byte))],[]⟩)]
noncomputable def e_cref01_Compare_l0(N n:Nat):LoopC:=⟨220,2,0,h_cref01_Compare_l0,q_cref01_Compare_l0,fun x=>F_cref01_Compare_l0 N n x⟩
theorem l_cref01_Compare_l0(N:Nat):∀n,LOk prog (e_cref01_Compare_l0 N n):=loopc_ok (cx:=x_cref01_Compare N []) tok mixed trivial trivial trivial trivial 220 2 0 h_cref01_Compare_l0 q_cref01_Compare_l0 (fun n x=>F_cref01_Compare_l0 N n x) (by kernel_rfl) (by kernel_rfl) (fun _=>rfl) (by intro n x;kernel_rfl)
theorem c_cref01_Compare(N:Nat):CtrOk prog 220 (k_cref01_Compare N):=fun_ok (cx:=x_cref01_Compare N [e_cref01_Compare_l0 N N]) tok mixed trivial trivial trivial ⟨l_cref01_Compare_l0 N N,trivial⟩ 220 _ (by kernel_rfl) (by kernel_rfl) (by intro x;kernel_rfl)
noncomputable def k_cref02_ReadLength(N:Nat):Ctr:=⟨[.hole (.sl .byte)],.tup [.hole (.int .i64),.hole (.int .i64),.hole (.pair (.int .i64) (.int .i64))],fun(x:Bs)=>F_cref02_ReadLength N x⟩
noncomputable def x_cref02_ReadLength(N:Nat) (L:List LoopC):Cx:=⟨prog,T,hHd,hOd,[(219,k_cref01_Uint N),(146,k_cref02_Length N),(220,k_cref01_Compare N)],[],[],L,.nil⟩
theorem c_cref02_ReadLength(N:Nat):CtrOk prog 140 (k_cref02_ReadLength N):=fun_ok (cx:=x_cref02_ReadLength N []) tok mixed ⟨c_cref01_Uint N,c_cref02_Length N,c_cref01_Compare N,trivial⟩ trivial trivial trivial 140 _ (by kernel_rfl) (by kernel_rfl) (by intro x;kernel_rfl)
noncomputable def k_cref02_ReadHeader(N:Nat):Ctr:=⟨[.hole (.sl .byte)],.tup [.hole (.pair (.int .i64) (.pair (.int .i64) (.pair .bool (.pair (.int .i64) (.int .i64))))),.hole (.pair (.int .i64) (.int .i64))],fun(x:Bs)=>F_cref02_ReadHeader N x⟩
noncomputable def x_cref02_ReadHeader(N:Nat) (L:List LoopC):Cx:=⟨prog,T,hHd,hOd,[(83,k_cref02_ReadIdentifier),(140,k_cref02_ReadLength N)],[],[],L,.nil⟩
theorem c_cref02_ReadHeader(N:Nat):CtrOk prog 76 (k_cref02_ReadHeader N):=fun_ok (cx:=x_cref02_ReadHeader N []) tok mixed ⟨c_cref02_ReadIdentifier,c_cref02_ReadLength N,trivial⟩ trivial trivial trivial 76 _ (by kernel_rfl) (by kernel_rfl) (by intro x;kernel_rfl)
noncomputable def k_cref02_Next(N:Nat):Ctr:=⟨[.hole (.sl .byte)],.tup [.hole (.pair (.int .i64) (.pair (.int .i64) (.pair .bool (.pair (.int .i64) (.int .i64))))),.hole (.sl .byte),.hole (.sl .byte),.hole (.pair (.int .i64) (.int .i64))],fun(x:Bs)=>F_cref02_Next N x⟩
noncomputable def x_cref02_Next(N:Nat) (L:List LoopC):Cx:=⟨prog,T,hHd,hOd,[(76,k_cref02_ReadHeader N)],[],[],L,.nil⟩
theorem c_cref02_Next(N:Nat):CtrOk prog 145 (k_cref02_Next N):=fun_ok (cx:=x_cref02_Next N []) tok mixed ⟨c_cref02_ReadHeader N,trivial⟩ trivial trivial trivial 145 _ (by kernel_rfl) (by kernel_rfl) (by intro x;kernel_rfl)
noncomputable def k_cref03_Read(N m:Nat):Ctr:=⟨[.hole (.sl .byte),.hole (.int .i64)],.tup [.hole .node,.hole (.int .i64),.hole (.pair (.int .i64) (.int .i64))],fun(x:Bs×Int)=>F_cref03_Read N m x.1 x.2⟩
noncomputable def x_cref03_Read(N m:Nat) (L:List LoopC):Cx:=⟨prog,T,hHd,hOd,[(145,k_cref02_Next N),(82,k_cref03_Read N m)],[],[],L,.nil⟩
noncomputable def h_cref03_Read_l0:Pat:=⟨[(1,.hole (.int .i64)),(4,.ptr 0 0),(6,.ptr 2 0),(7,.ptr 3 0),(8,.hole (.sl .byte)),(11,.ptr 6 0),(12,.hole (.int .i64))],[.cells [.ilit .i64 0,.ilit .i64 0,.blit false,.nils,.own 1] false,.arr .node false false,.cells [.ilit .i64 0,.ilit .i64 0] false,.cells [.hole (.int .i64),.hole (.int .i64),.hole .bool,.hole (.int .i64),.hole (.int .i64)] false,.junk,.arr .node false false,.cells [.hole (.int .i64),.hole (.int .i64),.hole .bool,.nils,.own 5] false,.junk]⟩
noncomputable def q_cref03_Read_l0:Exits:=[(.ret,⟨[(4,.ptr 0 0),(5,.ilit .i64 0),(6,.ptr 2 0)],[.cells [.ilit .i64 0,.ilit .i64 0,.blit false,.nils,.nils] false,.junk,.cells [.hole (.int .i64),.hole (.int .i64)] false,.junk,.junk,.junk,.junk,.junk]⟩),(.exit 0,⟨[(4,.ptr 0 0),(6,.ptr 2 0),(7,.ptr 3 0),(11,.ptr 6 0)],[.cells [.ilit .i64 0,.ilit .i64 0,.blit false,.nils,.own 1] false,.arr .node false false,.cells [.ilit .i64 0,.ilit .i64 0] false,.cells [.hole (.int .i64),.hole (.int .i64),.hole .bool,.hole (.int .i64),.hole (.int .i64)] false,.junk,.arr .node false false,.cells [.hole (.int .i64),.hole (.int .i64),.hole .bool,.nils,.own 5] false,.junk]⟩)]
noncomputable def e_cref03_Read_l0(N m n:Nat):LoopC:=⟨82,11,0,h_cref03_Read_l0,q_cref03_Read_l0,fun x=>F_cref03_Read_l0 N (F_cref03_Read N m) n x⟩
theorem l_cref03_Read_l0(N m:Nat) (hR:CtrOk prog 82 (k_cref03_Read N m)):∀n,LOk prog (e_cref03_Read_l0 N m n):=loopc_ok (cx:=x_cref03_Read N m []) tok mixed ⟨c_cref02_Next N,hR,trivial⟩ trivial trivial trivial 82 11 0 h_cref03_Read_l0 q_cref03_Read_l0 (fun n x=>F_cref03_Read_l0 N (F_cref03_Read N m) n x) (by kernel_rfl) (by kernel_rfl) (fun _=>rfl) (by intro n x;kernel_rfl)
theorem c_cref03_Read(N:Nat):∀m,CtrOk prog 82 (k_cref03_Read N m):=fun m=>Nat.rec (motive:=fun m=>CtrOk prog 82 (k_cref03_Read N m)) (ctr0 82 _ (by kernel_rfl) (by kernel_rfl) (by intro x;kernel_rfl)) (fun m hR=>fun_ok (cx:=x_cref03_Read N m [e_cref03_Read_l0 N m N]) tok mixed ⟨c_cref02_Next N,hR,trivial⟩ trivial trivial ⟨l_cref03_Read_l0 N m hR N,trivial⟩ 82 (k_cref03_Read N (m+1)) (by kernel_rfl) (by kernel_rfl) (by intro x;kernel_rfl)) m
noncomputable def k_cref03_Within(N:Nat):Ctr:=⟨[.hole (.sl .byte),.hole (.int .i64)],.tup [.hole .node,.hole (.pair (.int .i64) (.int .i64))],fun(x:Bs×Int)=>F_cref03_Within N x.1 x.2⟩
noncomputable def x_cref03_Within(N:Nat) (L:List LoopC):Cx:=⟨prog,T,hHd,hOd,[(82,k_cref03_Read N N)],[],[],L,.nil⟩
theorem c_cref03_Within(N:Nat):CtrOk prog 43 (k_cref03_Within N):=fun_ok (cx:=x_cref03_Within N []) tok mixed ⟨c_cref03_Read N N,trivial⟩ trivial trivial trivial 43 _ (by kernel_rfl) (by kernel_rfl) (by intro x;kernel_rfl)
noncomputable def k_cref03_Parse(N:Nat):Ctr:=⟨[.hole (.sl .byte)],.tup [.hole .node,.hole (.pair (.int .i64) (.int .i64))],fun(x:Bs)=>F_cref03_Parse N x⟩
noncomputable def x_cref03_Parse(N:Nat) (L:List LoopC):Cx:=⟨prog,T,hHd,hOd,[(43,k_cref03_Within N)],[],[],L,.nil⟩
theorem c_cref03_Parse(N:Nat):CtrOk prog 21 (k_cref03_Parse N):=fun_ok (cx:=x_cref03_Parse N []) tok mixed ⟨c_cref03_Within N,trivial⟩ trivial trivial trivial 21 _ (by kernel_rfl) (by kernel_rfl) (by intro x;kernel_rfl)
noncomputable def k_cref29_Tree(N:Nat):Ctr:=⟨[.hole (.sl .byte)],.tup [.hole .str,.hole (.pair (.int .i64) (.int .i64))],fun(x:Bs)=>F_cref29_Tree N x⟩
noncomputable def x_cref29_Tree(N:Nat) (L:List LoopC):Cx:=⟨prog,T,hHd,hOd,[(21,k_cref03_Parse N),(35,k_cref29_Text N N)],[],[],L,.nil⟩
theorem c_cref29_Tree(N:Nat):CtrOk prog 16 (k_cref29_Tree N):=fun_ok (cx:=x_cref29_Tree N []) tok mixed ⟨c_cref03_Parse N,c_cref29_Text N N,trivial⟩ trivial trivial trivial 16 _ (by kernel_rfl) (by kernel_rfl) (by intro x;kernel_rfl)
noncomputable def k_cref04_FromInt_o(N m:Nat):CtrO:=⟨[.hole (.int .i64)],.byte,fun(x:Int)=>F_cref04_FromInt_o N m x⟩
noncomputable def x_cref04_FromInt_o(N m:Nat) (L:List LoopC):Cx:=⟨prog,T,hHd,hOd,[],[(78,k_cref04_FromInt_o N m)],[],L,.nil⟩
theorem c_cref04_FromInt_o(N:Nat):∀m,CtrOOk prog 78 (k_cref04_FromInt_o N m):=fun m=>Nat.rec (motive:=fun m=>CtrOOk prog 78 (k_cref04_FromInt_o N m)) (ctrO0 78 _ (by kernel_rfl) (by kernel_rfl) (by intro x;kernel_rfl)) (fun m hR=>funO_ok (cx:=x_cref04_FromInt_o N m []) tok mixed trivial ⟨hR,trivial⟩ trivial trivial 78 (k_cref04_FromInt_o N (m+1)) (by kernel_rfl) (by kernel_rfl) (by intro x;kernel_rfl)) m
noncomputable def k_cref04_FromInt(N:Nat):Ctr:=⟨[.hole (.int .i64)],.hole (.sl .byte),fun(x:Int)=>F_cref04_FromInt N x⟩
noncomputable def x_cref04_FromInt(N:Nat) (L:List LoopC):Cx:=⟨prog,T,hHd,hOd,[],[(78,k_cref04_FromInt_o N N)],[],L,.nil⟩
theorem c_cref04_FromInt(N:Nat):CtrOk prog 78 (k_cref04_FromInt N):=fun_ok (cx:=x_cref04_FromInt N []) tok mixed trivial ⟨c_cref04_FromInt_o N N,trivial⟩ trivial trivial 78 _ (by kernel_rfl) (by kernel_rfl) (by intro x;kernel_rfl)
noncomputable def k_cref04_bit:Ctr:=⟨[.hole (.sl .byte),.hole (.int .i64)],.hole (.int .i64),fun(x:Bs×Int)=>F_cref04_bit x.1 x.2⟩
noncomputable def x_cref04_bit(L:List LoopC):Cx:=⟨prog,T,hHd,hOd,[],[],[],L,.nil⟩
theorem c_cref04_bit:CtrOk prog 221 (k_cref04_bit):=fun_ok (cx:=x_cref04_bit []) tok mixed trivial trivial trivial trivial 221 _ (by kernel_rfl) (by kernel_rfl) (by intro x;kernel_rfl)
noncomputable def k_cref04_Valid(N:Nat):Ctr:=⟨[.hole (.sl .byte)],.hole .bool,fun(x:Bs)=>F_cref04_Valid N x⟩
noncomputable def x_cref04_Valid(N:Nat) (L:List LoopC):Cx:=⟨prog,T,hHd,hOd,[(221,k_cref04_bit)],[],[],L,.nil⟩
noncomputable def h_cref04_Valid_l0:Pat:=⟨[(0,.hole (.sl .byte)),(3,.hole (.int .i64)),(4,.hole (.int .i64))],[]⟩
noncomputable def q_cref04_Valid_l0:Exits:=[(.exit 0,⟨[(3,.hole (.int .i64))],[]⟩)]
noncomputable def e_cref04_Valid_l0(N n:Nat):LoopC:=⟨141,7,0,h_cref04_Valid_l0,q_cref04_Valid_l0,fun x=>F_cref04_Valid_l0 N n x⟩
theorem l_cref04_Valid_l0(N:Nat):∀n,LOk prog (e_cref04_Valid_l0 N n):=loopc_ok (cx:=x_cref04_Valid N []) tok mixed ⟨c_cref04_bit,trivial⟩ trivial trivial trivial 141 7 0 h_cref04_Valid_l0 q_cref04_Valid_l0 (fun n x=>F_cref04_Valid_l0 N n x) (by kernel_rfl) (by kernel_rfl) (fun _=>rfl) (by intro n x;kernel_rfl)
theorem c_cref04_Valid(N:Nat):CtrOk prog 141 (k_cref04_Valid N):=fun_ok (cx:=x_cref04_Valid N [e_cref04_Valid_l0 N N]) tok mixed ⟨c_cref04_bit,trivial⟩ trivial trivial ⟨l_cref04_Valid_l0 N N,trivial⟩ 141 _ (by kernel_rfl) (by kernel_rfl) (by intro x;kernel_rfl)
noncomputable def k_cref04_Sign(N:Nat):Ctr:=⟨[.hole (.sl .byte)],.hole (.int .i64),fun(x:Bs)=>F_cref04_Sign N x⟩
noncomputable def x_cref04_Sign(N:Nat) (L:List LoopC):Cx:=⟨prog,T,hHd,hOd,[(141,k_cref04_Valid N),(221,k_cref04_bit)],[],[],L,.nil⟩
noncomputable def h_cref04_Sign_l0:Pat:=⟨[(0,.hole (.sl .byte)),(3,.hole (.int .i64))],[]⟩
noncomputable def q_cref04_Sign_l0:Exits:=[(.ret,⟨[(2,.ilit .i64 1)],[]⟩),(.exit 0,⟨[],[]⟩)]
noncomputable def e_cref04_Sign_l0(N n:Nat):LoopC:=⟨142,6,0,h_cref04_Sign_l0,q_cref04_Sign_l0,fun x=>F_cref04_Sign_l0 N n x⟩
theorem l_cref04_Sign_l0(N:Nat):∀n,LOk prog (e_cref04_Sign_l0 N n):=loopc_ok (cx:=x_cref04_Sign N []) tok mixed ⟨c_cref04_Valid N,c_cref04_bit,trivial⟩ trivial trivial trivial 142 6 0 h_cref04_Sign_l0 q_cref04_Sign_l0 (fun n x=>F_cref04_Sign_l0 N n x) (by kernel_rfl) (by kernel_rfl) (fun _=>rfl) (by intro n x;kernel_rfl)
theorem c_cref04_Sign(N:Nat):CtrOk prog 142 (k_cref04_Sign N):=fun_ok (cx:=x_cref04_Sign N [e_cref04_Sign_l0 N N]) tok mixed ⟨c_cref04_Valid N,c_cref04_bit,trivial⟩ trivial trivial ⟨l_cref04_Sign_l0 N N,trivial⟩ 142 _ (by kernel_rfl) (by kernel_rfl) (by intro x;kernel_rfl)
noncomputable def j_cref04_Decimal:Tr Exits:=(.node .nil 5167387649 [(.normal,⟨[(3,.own 0),(4,.slit [])],[.arr .byte false false]⟩)] .nil)
noncomputable def k_cref04_Decimal(N:Nat):Ctr:=⟨[.hole (.sl .byte)],.hole .str,fun(x:Bs)=>F_cref04_Decimal N x⟩
noncomputable def x_cref04_Decimal(N:Nat) (L:List LoopC):Cx:=⟨prog,T,.nil,hOd,[(141,k_cref04_Valid N),(142,k_cref04_Sign N)],[],[],L,j_cref04_Decimal⟩
noncomputable def h_cref04_Decimal_l0:Pat:=⟨[(3,.own 0),(4,.slit [45]),(5,.hole (.int .i64))],[.arr .byte false false]⟩
noncomputable def q_cref04_Decimal_l0:Exits:=[(.exit 0,⟨[(3,.own 0),(4,.slit [45])],[.arr .byte false false]⟩)]
noncomputable def e_cref04_Decimal_l0(N n:Nat):LoopC:=⟨77,8,0,h_cref04_Decimal_l0,q_cref04_Decimal_l0,fun x=>F_cref04_Decimal_l0 N n x⟩
theorem l_cref04_Decimal_l0(N:Nat):∀n,LOk prog (e_cref04_Decimal_l0 N n):=loopc_ok (cx:=x_cref04_Decimal N []) tok mixed ⟨c_cref04_Valid N,c_cref04_Sign N,trivial⟩ trivial trivial trivial 77 8 0 h_cref04_Decimal_l0 q_cref04_Decimal_l0 (fun n x=>F_cref04_Decimal_l0 N n x) (by kernel_rfl) (by kernel_rfl) (fun _=>rfl) (by intro n x;kernel_rfl)
noncomputable def h_cref04_Decimal_l1:Pat:=⟨[(3,.own 0),(4,.slit []),(6,.hole .str),(7,.hole (.int .i64)),(8,.hole (.int .i64))],[.arr .byte false false]⟩
noncomputable def q_cref04_Decimal_l1:Exits:=[(.exit 4,⟨[(3,.own 0),(4,.slit []),(6,.hole .str),(7,.hole (.int .i64))],[.arr .byte false false]⟩)]
noncomputable def e_cref04_Decimal_l1(N n:Nat):LoopC:=⟨77,16,0,h_cref04_Decimal_l1,q_cref04_Decimal_l1,fun x=>F_cref04_Decimal_l1 N n x⟩
theorem l_cref04_Decimal_l1(N:Nat):∀n,LOk prog (e_cref04_Decimal_l1 N n):=loopc_ok (cx:=x_cref04_Decimal N [e_cref04_Decimal_l0 N N]) tok mixed ⟨c_cref04_Valid N,c_cref04_Sign N,trivial⟩ trivial trivial ⟨l_cref04_Decimal_l0 N N,trivial⟩ 77 16 0 h_cref04_Decimal_l1 q_cref04_Decimal_l1 (fun n x=>F_cref04_Decimal_l1 N n x) (by kernel_rfl) (by kernel_rfl) (fun _=>rfl) (by intro n x;kernel_rfl)
noncomputable def h_cref04_Decimal_l2:Pat:=⟨[(3,.hole (.sl .byte))],[.arr .byte false true,.junk]⟩
noncomputable def q_cref04_Decimal_l2:Exits:=[(.exit 0,⟨[(3,.hole (.sl .byte))],[.arr .byte false true,.junk]⟩)]
noncomputable def e_cref04_Decimal_l2(N n:Nat):LoopC:=⟨144,2,1,h_cref04_Decimal_l2,q_cref04_Decimal_l2,fun x=>F_cref04_Decimal_l2 N n x⟩
theorem l_cref04_Decimal_l2(N:Nat):∀n,LOk prog (e_cref04_Decimal_l2 N n):=loopc_ok (cx:=x_cref04_Decimal N [e_cref04_Decimal_l0 N N,e_cref04_Decimal_l1 N N]) tok mixed ⟨c_cref04_Valid N,c_cref04_Sign N,trivial⟩ trivial trivial ⟨l_cref04_Decimal_l0 N N,l_cref04_Decimal_l1 N N,trivial⟩ 144 2 1 h_cref04_Decimal_l2 q_cref04_Decimal_l2 (fun n x=>F_cref04_Decimal_l2 N n x) (by kernel_rfl) (by kernel_rfl) (fun _=>rfl) (by intro n x;kernel_rfl)
noncomputable def h_cref04_Decimal_l3:Pat:=⟨[(3,.own 0),(4,.slit []),(6,.hole .str)],[.arr .byte false false]⟩
noncomputable def q_cref04_Decimal_l3:Exits:=[(.exit 2,⟨[(4,.slit []),(6,.hole .str)],[.junk]⟩)]
noncomputable def e_cref04_Decimal_l3(N n:Nat):LoopC:=⟨77,13,0,h_cref04_Decimal_l3,q_cref04_Decimal_l3,fun x=>F_cref04_Decimal_l3 N n x⟩
theorem l_cref04_Decimal_l3(N:Nat):∀n,LOk prog (e_cref04_Decimal_l3 N n):=loopc_ok (cx:=x_cref04_Decimal N [e_cref04_Decimal_l0 N N,e_cref04_Decimal_l1 N N,e_cref04_Decimal_l2 N N]) tok mixed ⟨c_cref04_Valid N,c_cref04_Sign N,trivial⟩ trivial trivial ⟨l_cref04_Decimal_l0 N N,l_cref04_Decimal_l1 N N,l_cref04_Decimal_l2 N N,trivial⟩ 77 13 0 h_cref04_Decimal_l3 q_cref04_Decimal_l3 (fun n x=>F_cref04_Decimal_l3 N n x) (by kernel_rfl) (by kernel_rfl) (fun _=>rfl) (by intro n x;kernel_rfl)
theorem c_cref04_Decimal(N:Nat):CtrOk prog 77 (k_cref04_Decimal N):=fun_ok (cx:=x_cref04_Decimal N [e_cref04_Decimal_l0 N N,e_cref04_Decimal_l1 N N,e_cref04_Decimal_l2 N N,e_cref04_Decimal_l3 N N]) tok mixed ⟨c_cref04_Valid N,c_cref04_Sign N,trivial⟩ trivial trivial ⟨l_cref04_Decimal_l0 N N,l_cref04_Decimal_l1 N N,l_cref04_Decimal_l2 N N,l_cref04_Decimal_l3 N N,trivial⟩ 77 _ (by kernel_rfl) (by kernel_rfl) (by intro x;kernel_rfl)
noncomputable def k_cref29_lines(N m:Nat):Ctr:=⟨[.hole .node,.hole (.int .i64)],.hole (.sl .str),fun(x:Fw.Node×Int)=>F_cref29_lines N m x.1 x.2⟩
noncomputable def x_cref29_lines(N m:Nat) (L:List LoopC):Cx:=⟨prog,T,hHd,hOd,[(46,k_cref03_Bytes N N),(76,k_cref02_ReadHeader N),(65,k_cref12_Hex N),(78,k_cref04_FromInt N),(77,k_cref04_Decimal N),(41,k_cref29_lines N m)],[],[],L,.nil⟩
noncomputable def h_cref29_lines_l0:Pat:=⟨[(1,.hole (.int .i64)),(2,.ptr 0 0),(5,.hole .str),(6,.hole (.int .i64))],[.cells [.hole (.int .i64),.hole (.int .i64),.hole .bool,.hole (.sl .byte),.hole (.sl .node)] false]⟩
noncomputable def q_cref29_lines_l0:Exits:=[(.exit 0,⟨[(1,.hole (.int .i64)),(2,.ptr 0 0),(5,.hole .str)],[.cells [.hole (.int .i64),.hole (.int .i64),.hole .bool,.hole (.sl .byte),.hole (.sl .node)] false]⟩)]
noncomputable def e_cref29_lines_l0(N m n:Nat):LoopC:=⟨41,3,0,h_cref29_lines_l0,q_cref29_lines_l0,fun x=>F_cref29_lines_l0 N (F_cref29_lines N m) n x⟩
theorem l_cref29_lines_l0(N m:Nat) (hR:CtrOk prog 41 (k_cref29_lines N m)):∀n,LOk prog (e_cref29_lines_l0 N m n):=loopc_ok (cx:=x_cref29_lines N m []) tok mixed ⟨c_cref03_Bytes N N,c_cref02_ReadHeader N,c_cref12_Hex N,c_cref04_FromInt N,c_cref04_Decimal N,hR,trivial⟩ trivial trivial trivial 41 3 0 h_cref29_lines_l0 q_cref29_lines_l0 (fun n x=>F_cref29_lines_l0 N (F_cref29_lines N m) n x) (by kernel_rfl) (by kernel_rfl) (fun _=>rfl) (by intro n x;kernel_rfl)
noncomputable def h_cref29_lines_l1:Pat:=⟨[(1,.hole (.int .i64)),(2,.ptr 0 0),(10,.own 3),(11,.hole (.int .i64))],[.cells [.hole (.int .i64),.hole (.int .i64),.hole .bool,.hole (.sl .byte),.hole (.sl .node)] false,.junk,.junk,.arr .str false false]⟩
noncomputable def q_cref29_lines_l1:Exits:=[(.exit 2,⟨[(10,.own 3)],[.junk,.junk,.junk,.arr .str false false]⟩)]
noncomputable def e_cref29_lines_l1(N m n:Nat):LoopC:=⟨41,10,0,h_cref29_lines_l1,q_cref29_lines_l1,fun x=>F_cref29_lines_l1 N (F_cref29_lines N m) n x⟩
theorem l_cref29_lines_l1(N m:Nat) (hR:CtrOk prog 41 (k_cref29_lines N m)):∀n,LOk prog (e_cref29_lines_l1 N m n):=loopc_ok (cx:=x_cref29_lines N m [e_cref29_lines_l0 N m N]) tok mixed ⟨c_cref03_Bytes N N,c_cref02_ReadHeader N,c_cref12_Hex N,c_cref04_FromInt N,c_cref04_Decimal N,hR,trivial⟩ trivial trivial ⟨l_cref29_lines_l0 N m hR N,trivial⟩ 41 10 0 h_cref29_lines_l1 q_cref29_lines_l1 (fun n x=>F_cref29_lines_l1 N (F_cref29_lines N m) n x) (by kernel_rfl) (by kernel_rfl) (fun _=>rfl) (by intro n x;kernel_rfl)
theorem c_cref29_lines(N:Nat):∀m,CtrOk prog 41 (k_cref29_lines N m):=fun m=>Nat.rec (motive:=fun m=>CtrOk prog 41 (k_cref29_lines N m)) (ctr0 41 _ (by kernel_rfl) (by kernel_rfl) (by intro x;kernel_rfl)) (fun m hR=>fun_ok (cx:=x_cref29_lines N m [e_cref29_lines_l0 N m N,e_cref29_lines_l1 N m N]) tok mixed ⟨c_cref03_Bytes N N,c_cref02_ReadHeader N,c_cref12_Hex N,c_cref04_FromInt N,c_cref04_Decimal N,hR,trivial⟩ trivial trivial ⟨l_cref29_lines_l0 N m hR N,l_cref29_lines_l1 N m hR N,trivial⟩ 41 (k_cref29_lines N (m+1)) (by kernel_rfl) (by kernel_rfl) (by intro x;kernel_rfl)) m
noncomputable def k_cref29_Lines(N:Nat):Ctr:=⟨[.hole (.sl .byte)],.tup [.hole (.sl .str),.hole (.pair (.int .i64) (.int .i64))],fun(x:Bs)=>F_cref29_Lines N x⟩
noncomputable def x_cref29_Lines(N:Nat) (L:List LoopC):Cx:=⟨prog,T,hHd,hOd,[(21,k_cref03_Parse N),(41,k_cref29_lines N N)],[],[],L,.nil⟩
theorem c_cref29_Lines(N:Nat):CtrOk prog 18 (k_cref29_Lines N):=fun_ok (cx:=x_cref29_Lines N []) tok mixed ⟨c_cref03_Parse N,c_cref29_lines N N,trivial⟩ trivial trivial trivial 18 _ (by kernel_rfl) (by kernel_rfl) (by intro x;kernel_rfl)
noncomputable def k_cbase_Strings(N:Nat):Ctr:=⟨[.hole (.sl .str),.hole (.sl .str)],.hole .bool,fun(x:List Bs×List Bs)=>F_cbase_Strings N x.1 x.2⟩
noncomputable def x_cbase_Strings(N:Nat) (L:List LoopC):Cx:=⟨prog,T,hHd,hOd,[],[],[],L,.nil⟩
noncomputable def h_cbase_Strings_l0:Pat:=⟨[(0,.hole (.sl .str)),(1,.hole (.sl .str)),(5,.hole (.int .i64))],[]⟩
noncomputable def q_cbase_Strings_l0:Exits:=[(.ret,⟨[(4,.blit false)],[]⟩),(.exit 0,⟨[(0,.hole (.sl .str)),(1,.hole (.sl .str))],[]⟩)]
noncomputable def e_cbase_Strings_l0(N n:Nat):LoopC:=⟨19,2,0,h_cbase_Strings_l0,q_cbase_Strings_l0,fun x=>F_cbase_Strings_l0 N n x⟩
theorem l_cbase_Strings_l0(N:Nat):∀n,LOk prog (e_cbase_Strings_l0 N n):=loopc_ok (cx:=x_cbase_Strings N []) tok mixed trivial trivial trivial trivial 19 2 0 h_cbase_Strings_l0 q_cbase_Strings_l0 (fun n x=>F_cbase_Strings_l0 N n x) (by kernel_rfl) (by kernel_rfl) (fun _=>rfl) (by intro n x;kernel_rfl)
theorem c_cbase_Strings(N:Nat):CtrOk prog 19 (k_cbase_Strings N):=fun_ok (cx:=x_cbase_Strings N [e_cbase_Strings_l0 N N]) tok mixed trivial trivial trivial ⟨l_cbase_Strings_l0 N N,trivial⟩ 19 _ (by kernel_rfl) (by kernel_rfl) (by intro x;kernel_rfl)
noncomputable def k_cref03_Count(N m:Nat):Ctr:=⟨[.hole .node],.hole (.int .i64),fun(x:Fw.Node)=>F_cref03_Count N m x⟩
noncomputable def x_cref03_Count(N m:Nat) (L:List LoopC):Cx:=⟨prog,T,hHd,hOd,[(22,k_cref03_Count N m)],[],[],L,.nil⟩
noncomputable def h_cref03_Count_l0:Pat:=⟨[(1,.ptr 0 0),(3,.hole (.int .i64)),(4,.hole (.int .i64))],[.cells [.hole (.int .i64),.hole (.int .i64),.hole .bool,.hole (.sl .byte),.hole (.sl .node)] false]⟩
noncomputable def q_cref03_Count_l0:Exits:=[(.exit 0,⟨[(3,.hole (.int .i64))],[.junk]⟩)]
noncomputable def e_cref03_Count_l0(N m n:Nat):LoopC:=⟨22,3,0,h_cref03_Count_l0,q_cref03_Count_l0,fun x=>F_cref03_Count_l0 N (F_cref03_Count N m) n x⟩
theorem l_cref03_Count_l0(N m:Nat) (hR:CtrOk prog 22 (k_cref03_Count N m)):∀n,LOk prog (e_cref03_Count_l0 N m n):=loopc_ok (cx:=x_cref03_Count N m []) tok mixed ⟨hR,trivial⟩ trivial trivial trivial 22 3 0 h_cref03_Count_l0 q_cref03_Count_l0 (fun n x=>F_cref03_Count_l0 N (F_cref03_Count N m) n x) (by kernel_rfl) (by kernel_rfl) (fun _=>rfl) (by intro n x;kernel_rfl)
theorem c_cref03_Count(N:Nat):∀m,CtrOk prog 22 (k_cref03_Count N m):=fun m=>Nat.rec (motive:=fun m=>CtrOk prog 22 (k_cref03_Count N m)) (ctr0 22 _ (by kernel_rfl) (by kernel_rfl) (by intro x;kernel_rfl)) (fun m hR=>fun_ok (cx:=x_cref03_Count N m [e_cref03_Count_l0 N m N]) tok mixed ⟨hR,trivial⟩ trivial trivial ⟨l_cref03_Count_l0 N m hR N,trivial⟩ 22 (k_cref03_Count N (m+1)) (by kernel_rfl) (by kernel_rfl) (by intro x;kernel_rfl)) m
noncomputable def k_claw29_DumpTrees(N:Nat):Ctr:=⟨[.hole (.sl .byte)],.hole .bool,fun(x:Bs)=>F_claw29_DumpTrees N x⟩
noncomputable def x_claw29_DumpTrees(N:Nat) (L:List LoopC):Cx:=⟨prog,T,hHd,hOd,[(7,k_awakeD),(15,k_dump_Tree N),(16,k_cref29_Tree N),(17,k_Lines N),(18,k_cref29_Lines N),(19,k_cbase_Strings N),(20,k_PT N),(21,k_cref03_Parse N),(13,k_cbase_Bytes),(22,k_cref03_Count N N)],[],[],L,.nil⟩
theorem c_claw29_DumpTrees(N:Nat):CtrOk prog 5 (k_claw29_DumpTrees N):=fun_ok (cx:=x_claw29_DumpTrees N []) tok mixed ⟨c_awakeD,c_dump_Tree N,c_cref29_Tree N,c_Lines N,c_cref29_Lines N,c_cbase_Strings N,c_PT N,c_cref03_Parse N,c_cbase_Bytes,c_cref03_Count N N,trivial⟩ trivial trivial trivial 5 _ (by kernel_rfl) (by kernel_rfl) (by intro x;kernel_rfl)
end Go.Proofs.Tryz
namespace Go.Fw
open Go
def fiB:Nat→Nat→Bs
 |0,n=>[UInt8.ofNat n]
 |f+1,n=>if n<128 then [UInt8.ofNat n] else fiB f (n / 256)++[UInt8.ofNat (n % 256)]
theorem wshr8i{n:Nat}(h:n<4611686018427387904):wshr .i64 (n:Int) 8=((n / 256:Nat):Int):=by
 show(n:Int).fdiv (2 ^ (8:Nat))=_
 rw[Int.fdiv_eq_ediv_of_nonneg _ (by decide)]
 omega
theorem fi_o(N:Nat):∀(g f n:Nat),n<128*256 ^ g→g<f→g≤6→F_cref04_FromInt_o N f (n:Int)=some (fiB g n)∧(fiB g n).length≤g+1
 |0,f+1,n,h,_,_=>by
  rw[s_cref04_FromInt_o,decide_eq_true (by omega),cond_true,decide_eq_true (by omega),cond_true,toB_wrap,Option.bind_some,Nat.mod_eq_of_lt (by omega)]
  exact⟨rfl,by simp[fiB]⟩
 |g+1,f+1,n,h,hf,hg=>by
  have hp:(256:Nat) ^ (g+1)≤256 ^ 6:=Nat.pow_le_pow_right (by decide) hg
  have e6:(256:Nat) ^ 6=281474976710656:=by decide
  rw[s_cref04_FromInt_o,decide_eq_true (by omega),cond_true,fiB]
  by_cases hs:n<128
  ·rw[decide_eq_true (by omega),cond_true,toB_wrap,Option.bind_some,Nat.mod_eq_of_lt (by omega),if_pos hs]
   exact⟨rfl,by simp⟩
  ·obtain⟨h1,h2⟩:=fi_o N g f (n / 256) (by rw[Nat.pow_succ]at h;omega) (by omega) (by omega)
   rw[decide_eq_false (by omega),cond_false,wshr8i (by omega),h1,Option.bind_some,toB_wrap,Option.bind_some,app_ok (by simp only[List.length_cons,List.length_nil];omega) (by simp only[List.length_cons,List.length_nil];omega),Option.bind_some,if_neg hs]
   exact⟨rfl,by simp only[List.length_append,List.length_cons,List.length_nil];omega⟩
theorem fi_ok{N:Nat}(hN:1000000<N) {n:Nat}(h:n<1000000000):F_cref04_FromInt N (n:Int)=some (fiB 5 n)∧(fiB 5 n).length≤6:=by
 have h2:=fi_o N 5 (N+1) n (by have:(256:Nat) ^ 5=1099511627776:=by decide
                               omega) (by omega) (by omega)
 refine⟨?_,h2.2⟩
 have:=h2.1
 rw[s_cref04_FromInt_o]at this
 exact this
theorem beN_cons(x:UInt8):∀l:Bs,beN (x::l)=x.toNat*256 ^ l.length+beN l:=by
 intro l
 have key:∀(l:Bs) (a:Nat),l.foldl (fun n x=>256*n+x.toNat) a=a*256 ^ l.length+beN l:=by
  intro l
  induction l with
  |nil=>intro a;simp[beN]
  |cons y l ih=>
   intro a
   unfold beN
   rw[List.foldl_cons,List.foldl_cons,ih,ih,List.length_cons,Nat.pow_succ,Nat.add_mul,Nat.add_mul]
   have:256*a*256 ^ l.length=a*(256 ^ l.length*256):=by rw[Nat.mul_comm 256 a,Nat.mul_assoc,Nat.mul_comm 256]
   omega
 unfold beN
 rw[List.foldl_cons]
 have:=key l (256*0+x.toNat)
 rw[this]
 simp[beN]
theorem fiB_be:∀(g n:Nat),n<128*256 ^ g→beN (fiB g n)=n∧∃x r,fiB g n=x::r∧x.toNat<128∧(r≠[]→¬(x.toNat=0∧∃y r',r=y::r'∧y.toNat<128))
 |0,n,h=>by
  have h:n<128:=by simpa using h
  refine⟨by simp[fiB,beN];omega,UInt8.ofNat n,[],rfl,by simp;omega,fun h=>absurd rfl h⟩
 |g+1,n,h=>by
  rw[fiB]
  by_cases hs:n<128
  ·rw[if_pos hs]
   exact⟨by simp[beN];omega,UInt8.ofNat n,[],rfl,by simp;omega,fun h=>absurd rfl h⟩
  ·rw[if_neg hs]
   obtain⟨h1,x,r,h2,h3,h4⟩:=fiB_be g (n / 256) (by rw[Nat.pow_succ]at h;omega)
   refine⟨by rw[beN_append,h1];simp;omega,x,r++[UInt8.ofNat (n % 256)],by rw[h2];rfl,h3,fun _ hc=> ?_⟩
   obtain⟨hx,y,r',hy,hy2⟩:=hc
   cases r with
   |nil=>
    rw[List.nil_append]at hy
    injection hy with hy _
    rw[h2]at h1
    rw[←hy]at hy2
    simp[beN,hx]at h1
    simp at hy2
    omega
   |cons z r=>
    rw[List.cons_append]at hy
    injection hy with hy _
    exact h4 (by simp) ⟨hx,z,r,rfl,by rw[hy];exact hy2⟩
def bitB(x i:Nat):Bool:=decide (Int.tmod (IntKind.wrap .i64 (wshr .u8 ((UInt8.ofNat x).toNat:Int) (wsub .i64 7 (Int.tmod (i:Int) 8)))) 2=((x / 2 ^ (7-i % 8) % 2:Nat):Int))
theorem bit_all:((List.range 256).all fun x=>(List.range 9).all fun i=>bitB x i)=true:=by decide+kernel
theorem bit_at{l:Bs}{b:UInt8}{i:Nat}(hi:i<9) (h:l[i / 8]? =some b):F_cref04_bit l (i:Int)=some ((b.toNat / 2 ^ (7-i % 8) % 2:Nat):Int):=by
 unfold F_cref04_bit
 have e1:wquo .i64 (i:Int) 8=((i / 8:Nat):Int):=by
  show IntKind.i64.wrap ((i:Int).tdiv 8)=_
  rw[Int.tdiv_eq_ediv_of_nonneg (by omega),Go.IntWalk.i64_in _ (by omega)];omega
 have e2:Int.tmod (i:Int) 8=((i % 8:Nat):Int):=by rw[Int.tmod_eq_emod_of_nonneg (by omega)];omega
 have h1:=of_decide_eq_true (List.all_eq_true.1 (List.all_eq_true.1 bit_all b.toNat (List.mem_range.2 b.toNat_lt)) i (List.mem_range.2 hi))
 rw[UInt8.ofNat_toNat]at h1
 rw[e1,ix_n h,Option.bind_some,decide_eq_true (by rw[e2,wsb_in (by omega)];omega),cond_true,h1]
def sm8(x:Nat):Nat:=x / 128 % 2+x / 64 % 2+x / 32 % 2+x / 16 % 2+x / 8 % 2+x / 4 % 2+x / 2 % 2+x % 2
theorem sum8_all:((List.range 256).all fun x=>decide ((sm8 x=0↔x=0)∧(x<128→sm8 x≤7)))=true:=by decide+kernel
theorem vl_step(N n:Nat) (l:Bs) (s i b:Nat) (hi:i<9) (hs:s<100) (hb:b<100) (h:F_cref04_bit l (i:Int)=some (b:Int)):F_cref04_Valid_l0 N (n+1) (l,(s:Int),(i:Int))=F_cref04_Valid_l0 N n (l,((s+b:Nat):Int),((i+1:Nat):Int)):=by
 rw[s_cref04_Valid_l0,decide_eq_true (by omega),cond_true,h,Option.bind_some,inc_i (by omega)]
 congr 2
 rw[wad_in (by omega)];simp
theorem valid_two{N:Nat}(hN:1000000<N) (x y:UInt8) (r:Bs) (hx:x.toNat<128) (hl:r.length<1000000):F_cref04_Valid N (x::y::r)=some (!decide (x.toNat=0∧y.toNat<128)):=by
 have hy:=y.toNat_lt
 obtain⟨n,rfl⟩:∃n,N=n+10:=⟨N-10,by omega⟩
 unfold F_cref04_Valid
 rw[show(((x::y::r:Bs).length:Int)==0)=false from beq_eq_false_iff_ne.2 (by simp;omega),cond_false,show(((x::y::r:Bs).length:Int)==1)=false from beq_eq_false_iff_ne.2 (by simp;omega),cond_false]
 have hb:∀i:Nat,i<8→F_cref04_bit (x::y::r) (i:Int)=some ((x.toNat / 2 ^ (7-i % 8) % 2:Nat):Int):=fun i hi=>bit_at (by omega) (by rw[Nat.div_eq_of_lt hi];rfl)
 have hb8:F_cref04_bit (x::y::r) ((8:Nat):Int)=some ((y.toNat / 2 ^ (7-8 % 8) % 2:Nat):Int):=bit_at (i:=8) (by omega) rfl
 have hlt:∀a b:Nat,a / b % 2<100:=fun a b=>by omega
 have e:=of_decide_eq_true (List.all_eq_true.1 sum8_all x.toNat (List.mem_range.2 x.toNat_lt))
 rw[show(0:Int)=((0:Nat):Int) from rfl]
 rw[vl_step _ _ _ _ 0 _ (by omega) (by omega) (hlt _ _) (hb 0 (by omega)),vl_step _ _ _ _ 1 _ (by omega) (by omega) (hlt _ _) (hb 1 (by omega)),vl_step _ _ _ _ 2 _ (by omega) (by omega) (hlt _ _) (hb 2 (by omega)),vl_step _ _ _ _ 3 _ (by omega) (by omega) (hlt _ _) (hb 3 (by omega)),vl_step _ _ _ _ 4 _ (by omega) (by omega) (hlt _ _) (hb 4 (by omega)),vl_step _ _ _ _ 5 _ (by omega) (by omega) (hlt _ _) (hb 5 (by omega)),vl_step _ _ _ _ 6 _ (by omega) (by omega) (hlt _ _) (hb 6 (by omega)),vl_step _ _ _ _ 7 _ (by omega) (by omega) (hlt _ _) (hb 7 (by omega)),vl_step _ _ _ _ 8 _ (by omega) (by omega) (hlt _ _) hb8]
 rw[s_cref04_Valid_l0,decide_eq_false (by omega),cond_false,Option.bind_some]
 have p0:(2:Nat) ^ (7-0 % 8)=128:=by decide
 have p1:(2:Nat) ^ (7-1 % 8)=64:=by decide
 have p2:(2:Nat) ^ (7-2 % 8)=32:=by decide
 have p3:(2:Nat) ^ (7-3 % 8)=16:=by decide
 have p4:(2:Nat) ^ (7-4 % 8)=8:=by decide
 have p5:(2:Nat) ^ (7-5 % 8)=4:=by decide
 have p6:(2:Nat) ^ (7-6 % 8)=2:=by decide
 have p7:(2:Nat) ^ (7-7 % 8)=1:=by decide
 have p8:(2:Nat) ^ (7-8 % 8)=128:=by decide
 rw[p0,p1,p2,p3,p4,p5,p6,p7,Nat.div_one]
 have eS:0+x.toNat / 128 % 2+x.toNat / 64 % 2+x.toNat / 32 % 2+x.toNat / 16 % 2+x.toNat / 8 % 2+x.toNat / 4 % 2+x.toNat / 2 % 2+x.toNat % 2=sm8 x.toNat:=by rw[Nat.zero_add];rfl
 rw[eS]
 generalize sm8 x.toNat=S at e⊢
 generalize hQ:y.toNat / 128 % 2=Q
 have hQ2:Q≤1:=by omega
 have hQ0:Q=0↔y.toNat<128:=by omega
 clear hQ hb hb8 hlt
 have h7:=e.2 hx
 have h8:=e.1
 clear e
 by_cases h0:S+Q=0
 ·rw[h0,show((((0:Nat):Int)) !=((0:Nat):Int))=false from rfl,cond_false,decide_eq_true ⟨h8.1 (by omega),hQ0.1 (by omega)⟩]
  rfl
 ·rw[show((((S+Q:Nat):Int)) !=((0:Nat):Int))=true from by rw[bne_iff_ne];omega,cond_true,show((((S+Q:Nat):Int)) !=9)=true from by rw[bne_iff_ne];omega,decide_eq_false (fun h=>h0 (by rw[h8.2 h.1,hQ0.2 h.2]))]
  rfl
theorem valid_one{N:Nat}(x:UInt8):F_cref04_Valid N [x]=some true:=rfl
theorem beN_zero:∀l:Bs,beN l=0↔∀x ∈ l,x.toNat=0
 |[]=>by simp[beN]
 |x::l=>by
  rw[beN_cons]
  have ih:=beN_zero l
  have hp:0<256 ^ l.length:=Nat.pow_pos (by decide)
  constructor
  ·intro h y hy
   have h1:x.toNat*256 ^ l.length=0:=by omega
   rcases List.mem_cons.1 hy with rfl|hy
   ·rcases Nat.mul_eq_zero.1 h1 with h|h
    ·exact h
    ·omega
   ·exact ih.1 (by omega) y hy
  ·intro h
   rw[h x (by simp),ih.2 fun y hy=>h y (by simp[hy])]
   simp
theorem sign_loop(N:Nat) (l:Bs) (hl:l.length<1000000):∀(k n i:Nat),l.length-i=k→i≤l.length→k<n→∃y,F_cref04_Sign_l0 N n (l,(i:Int))=some y∧(y= .inl ()∧beN (l.drop i)≠0∨y= .inr ()∧beN (l.drop i)=0)
 |0,n+1,i,hk,hi,_=>by
  rw[s_cref04_Sign_l0,ge_i (by omega),List.drop_eq_nil_of_le (by omega)]
  exact⟨_,rfl,.inr ⟨rfl,rfl⟩⟩
 |k+1,n+1,i,hk,hi,hn=>by
  have hlt:i<l.length:=by omega
  rw[s_cref04_Sign_l0,lt_i hlt,cond_true,ix_at hlt,Option.bind_some,drop_cons hlt]
  by_cases h0:l[i].toNat=0
  ·rw[show((l[i].toNat:Int) !=0)=false from by rw[h0];rfl,cond_false,inc_i (by omega),beN_cons,h0,Nat.zero_mul,Nat.zero_add]
   exact sign_loop N l hl k n (i+1) (by omega) (by omega) (by omega)
  ·rw[show((l[i].toNat:Int) !=0)=true from by rw[bne_iff_ne];omega,cond_true]
   refine⟨_,rfl,.inl ⟨rfl,fun h=> ?_⟩⟩
   exact h0 ((beN_zero _).1 h _ List.mem_cons_self)
theorem sign_ok{N:Nat}(hN:1000000<N) {x:UInt8}{r:Bs}(hx:x.toNat<128) (hl:r.length<100000) (hv:F_cref04_Valid N (x::r)=some true):F_cref04_Sign N (x::r)=some (if beN (x::r)=0 then 0 else 1):=by
 unfold F_cref04_Sign
 rw[hv,Option.bind_some,Bool.not_true,cond_false]
 have hb:=bit_at (l:=x::r) (b:=x) (i:=0) (by omega) rfl
 rw[show(0:Int)=((0:Nat):Int) from rfl,hb,Option.bind_some]
 have:x.toNat / 2 ^ (7-0 % 8) % 2=0:=by
  have:(2:Nat) ^ (7-0 % 8)=128:=by decide
  rw[this];omega
 rw[this,show((((0:Nat):Int))==1)=false from rfl,cond_false]
 obtain⟨y,h1,h2⟩:=sign_loop N (x::r) (by simp;omega) (x::r).length N 0 (by omega) (by omega) (by simp;omega)
 rw[h1]
 rw[List.drop_zero]at h2
 rcases h2 with⟨rfl,h2⟩|⟨rfl,h2⟩
 ·rw[if_neg h2];rfl
 ·rw[if_pos h2];rfl
end Go.Fw
namespace Go.Fw
open Go
def divB:Nat→Bs→Bs
 |_,[]=>[]
 |r,x::l=>UInt8.ofNat ((r*256+x.toNat) / 10)::divB ((r*256+x.toNat) % 10) l
def modB:Nat→Bs→Nat
 |r,[]=>r
 |r,x::l=>modB ((r*256+x.toNat) % 10) l
theorem divB_len:∀(l:Bs) (r:Nat),(divB r l).length=l.length
 |[],_=>rfl
 |x::l,r=>by rw[divB,List.length_cons,divB_len l,List.length_cons]
theorem div_be:∀(l:Bs) (r:Nat),r<10→10*beN (divB r l)+modB r l=r*256 ^ l.length+beN l∧modB r l<10
 |[],r,h=>⟨by simp[divB,modB,beN],h⟩
 |x::l,r,h=>by
  have hx:=x.toNat_lt
  obtain⟨h1,h2⟩:=div_be l ((r*256+x.toNat) % 10) (Nat.mod_lt _ (by decide))
  refine⟨?_,by rw[modB];exact h2⟩
  rw[divB,modB,beN_cons,beN_cons,divB_len,List.length_cons,Nat.pow_succ]
  have e1:(UInt8.ofNat ((r*256+x.toNat) / 10)).toNat=(r*256+x.toNat) / 10:=by
   simp only[UInt8.toNat_ofNat']
   exact Nat.mod_eq_of_lt (by omega)
  rw[e1]
  generalize hq:(r*256+x.toNat) / 10=q at h1 h2⊢
  generalize ht:(r*256+x.toNat) % 10=t at h1 h2⊢
  have hs:r*256+x.toNat=10*q+t:=by omega
  generalize 256 ^ l.length=P at h1⊢
  have e3:r*(P*256)+x.toNat*P=(r*256+x.toNat)*P:=by
   rw[Nat.add_mul,Nat.mul_assoc,Nat.mul_comm P 256]
  have e4:(10*q+t)*P=10*(q*P)+t*P:=by rw[Nat.add_mul,Nat.mul_assoc]
  have e5:r*(P*256)+(x.toNat*P+beN l)=(r*256+x.toNat)*P+beN l:=by rw[←e3,Nat.add_assoc]
  rw[e5,hs,e4,Nat.mul_add]
  omega
theorem dl1_ok(N:Nat) (s:Bs):∀(t p:Bs) (n r:Nat),t.length<n→p.length+t.length<1000000→r<10→F_cref04_Decimal_l1 N n (s,(r:Int),(p.length:Int),p++t)=some (s,(modB r t:Int),p++divB r t)
 |[],p,n+1,r,_,_,_=>by
  rw[s_cref04_Decimal_l1,ge_i (by simp)]
  rfl
 |x::t,p,n+1,r,hn,hp,hr=>by
  have hx:=x.toNat_lt
  rw[List.length_cons]at hn hp
  have hlt:p.length<(p++x::t).length:=by simp
  have e1:wadd .i64 (wmul .i64 (r:Int) 256) (IntKind.wrap .i64 (x.toNat:Int))=((r*256+x.toNat:Nat):Int):=by
   have a1:wmul .i64 (r:Int) 256=((r*256:Nat):Int):=by
    show IntKind.i64.wrap ((r:Int)*256)=_
    rw[Go.IntWalk.i64_in _ (by omega)];omega
   rw[a1,Go.IntWalk.i64_in _ (by omega),wad_in (by omega)]
   omega
  have e2:wquo .i64 ((r*256+x.toNat:Nat):Int) 10=(((r*256+x.toNat) / 10:Nat):Int):=by
   show IntKind.i64.wrap (((r*256+x.toNat:Nat):Int).tdiv 10)=_
   rw[Int.tdiv_eq_ediv_of_nonneg (by omega),Go.IntWalk.i64_in _ (by omega)];omega
  have e3:Int.tmod ((r*256+x.toNat:Nat):Int) 10=(((r*256+x.toNat) % 10:Nat):Int):=by rw[Int.tmod_eq_emod_of_nonneg (by omega)];omega
  have e4:∀b:UInt8,(p++x::t).set (Int.toNat (p.length:Int)) b=(p++[b])++t:=fun b=>by simp
  have e5:ix (p++x::t) (p.length:Int)=some x:=ix_n (by simp)
  rw[s_cref04_Decimal_l1,lt_i hlt,cond_true,inb_nat hlt,cond_true,e5,Option.bind_some,cond_true,cond_true,e1,e2,e3,toB_wrap,Option.bind_some,Nat.mod_eq_of_lt (show(r*256+x.toNat) / 10<256 by omega),e4,inc_i (by omega)]
  have h:=dl1_ok N s t (p++[UInt8.ofNat ((r*256+x.toNat) / 10)]) n ((r*256+x.toNat) % 10) (by omega) (by simp;omega) (Nat.mod_lt _ (by decide))
  rw[List.length_append,List.length_cons,List.length_nil]at h
  rw[h,modB,divB]
  simp
theorem dl2_ok{N:Nat}(hN:1000000<N) (q:Bs):∀(r:Bs) (n:Nat) (x:UInt8),r.length<n→r.length<100000→x.toNat<128→∃y t,F_cref04_Decimal_l2 N n (x::r,q)=some (y::t,q)∧y.toNat<128∧t.length<100000∧beN (y::t)=beN (x::r)∧F_cref04_Valid N (y::t)=some true
 |[],n+1,x,_,_,hx=>by
  rw[s_cref04_Decimal_l2,decide_eq_false (by simp),cond_false]
  exact⟨x,[],rfl,hx,by simp,rfl,valid_one x⟩
 |z::r,n+1,x,hn,hl,hx=>by
  rw[List.length_cons]at hn hl
  rw[s_cref04_Decimal_l2,decide_eq_true (by simp;omega),cond_true,valid_two hN x z r hx (by omega),Option.bind_some,Bool.not_not]
  by_cases h:x.toNat=0∧z.toNat<128
  ·rw[decide_eq_true h,cond_true,slc_one,Option.bind_some]
   obtain⟨y,t,h1,h2,h3,h4,h5⟩:=dl2_ok hN q r n z (by omega) (by omega) h.2
   refine⟨y,t,h1,h2,h3,?_,h5⟩
   rw[h4,beN_cons x,h.1,Nat.zero_mul,Nat.zero_add]
  ·rw[decide_eq_false h,cond_false]
   exact⟨x,z::r,rfl,hx,by simp;omega,rfl,by rw[valid_two hN x z r hx (by omega),decide_eq_false h];rfl⟩
def digT:Bs:=[48,49,50,51,52,53,54,55,56,57]
theorem dig_all:((List.range 10).all fun d=>decide (slc digT (d:Int) (wadd .i64 (d:Int) 1)=some [UInt8.ofNat (48+d)]))=true:=by decide+kernel
theorem dl3_dig{N:Nat}(hN:1000000<N) (s l:Bs) (hl:l.length<100000) (hs:s.length<1000000) (K:Bs×Bs→Option Bs):
 ((F_cref04_Decimal_l1 N N (s,0,0,l)).bind fun(s8,i9,l10)=>
   (slc ([48,49,50,51,52,53,54,55,56,57]:Bs) i9 (wadd .i64 i9 1)).bind fun s11=>
   (cat s11 s8).bind fun s12=>K (s12,l10))=K (UInt8.ofNat (48+modB 0 l)::s,divB 0 l):=by
 have h:=dl1_ok N s l [] N 0 (by omega) (by simp;omega) (by omega)
 have hd:=of_decide_eq_true (List.all_eq_true.1 dig_all (modB 0 l) (List.mem_range.2 (div_be l 0 (by omega)).2))
 rw[show(0:Int)=((0:Nat):Int) from rfl]
 rw[List.nil_append,List.length_nil]at h
 rw[h]
 simp only[Option.bind_some]
 rw[show([48,49,50,51,52,53,54,55,56,57]:Bs)=digT from rfl,hd,Option.bind_some,cat_ok (by simp;omega),Option.bind_some]
 rfl
theorem dl3_step{N:Nat}(hN:1000000<N) (n:Nat) (s l:Bs) (hl:l.length<10000) (hs:s.length<1000000) (hs0:s≠[]):F_cref04_Decimal_l3 N (n+1) (s,l)=if beN l=0 then some s else F_cref04_Decimal_l3 N n (UInt8.ofNat (48+modB 0 l)::s,divB 0 l):=by
 have hK:=dl3_dig hN s l (by omega) hs (F_cref04_Decimal_l3 N n)
 have e0:(s==[])=false:=beq_eq_false_iff_ne.2 hs0
 have happ:app 1 ([0]:Bs) l=some (0::l):=app_ok (by simp;omega) (by simp;omega)
 have hb0:beN (0::l)=beN l:=by rw[beN_cons];simp
 have hfin:∀v:Int,v=(if beN l=0 then 0 else 1)→(bif v !=0 then((F_cref04_Decimal_l1 N N (s,0,0,l)).bind fun(s8,i9,l10)=>
  (slc ([48,49,50,51,52,53,54,55,56,57]:Bs) i9 (wadd .i64 i9 1)).bind fun s11=>
  (cat s11 s8).bind fun s12=>F_cref04_Decimal_l3 N n (s12,l10)) else some s)=if beN l=0 then some s else F_cref04_Decimal_l3 N n (UInt8.ofNat (48+modB 0 l)::s,divB 0 l):=fun v hv=>by
  rw[hK]
  by_cases h:beN l=0
  ·rw[hv,if_pos h,if_pos h];rfl
  ·rw[hv,if_neg h,if_neg h];rfl
 rw[s_cref04_Decimal_l3,e0,cond_false,happ,Option.bind_some]
 cases l with
 |nil=>
  rw[decide_eq_false (by simp),cond_false,sign_ok hN (by decide) (by simp) (valid_one 0),Option.bind_some]
  exact hfin _ (by rw[hb0])
 |cons y r=>
  rw[List.length_cons]at hl
  rw[decide_eq_true (by simp;omega),cond_true]
  have hv:=valid_two hN 0 y r (by decide) (by omega)
  rw[hv,Option.bind_some,Bool.not_not]
  by_cases h:(0:UInt8).toNat=0∧y.toNat<128
  ·rw[decide_eq_true h,cond_true,slc_one,Option.bind_some]
   obtain⟨z,t,h1,h2,h3,h4,h5⟩:=dl2_ok hN (y::r) r N y (by omega) (by omega) h.2
   rw[h1]
   simp only[Option.bind_some]
   rw[sign_ok hN h2 h3 h5,Option.bind_some]
   exact hfin _ (by rw[h4])
  ·rw[decide_eq_false h,cond_false,sign_ok hN (by decide) (by simp;omega) (by rw[hv,decide_eq_false h];rfl),Option.bind_some]
   exact hfin _ (by rw[hb0])
theorem dl3_ok{N:Nat}(hN:1000000<N):∀(f n:Nat) (s l:Bs),f<n→beN l<10 ^ f→l.length<10000→s.length+f<1000→s≠[]→F_cref04_Decimal_l3 N n (s,l)=some ((if beN l=0 then [] else digF f (beN l))++s)
 |0,n+1,s,l,_,hv,hl,hs,h0=>by
  have hz:beN l=0:=by simpa using hv
  rw[dl3_step hN n s l hl (by omega) h0,if_pos hz,if_pos hz];rfl
 |f+1,n+1,s,l,hn,hv,hl,hs,h0=>by
  rw[dl3_step hN n s l hl (by omega) h0]
  by_cases hz:beN l=0
  ·rw[if_pos hz,if_pos hz];rfl
  ·obtain⟨h1,h2⟩:=div_be l 0 (by omega)
   rw[Nat.zero_mul,Nat.zero_add]at h1
   have e1:beN (divB 0 l)=beN l / 10:=by omega
   have e2:modB 0 l=beN l % 10:=by omega
   rw[if_neg hz,if_neg hz,dl3_ok hN f n _ _ (by omega) (by rw[Nat.pow_succ]at hv;omega) (by rw[divB_len];exact hl) (by simp;omega) (by simp),e1,e2,digF]
   by_cases h9:beN l<10
   ·rw[if_pos (by omega),show Nat.blt (beN l) 10=true from Nat.ble_eq_true_of_le h9,cond_true,Nat.mod_eq_of_lt h9];rfl
   ·rw[if_neg (by omega),show Nat.blt (beN l) 10=false from Bool.eq_false_iff.2 fun e=>h9 (Nat.le_of_ble_eq_true e),cond_false]
    simp
theorem digF_le:∀(f n:Nat),(digF f n).length≤f
 |0,_=>Nat.le_refl _
 |f+1,n=>by
  have:=digF_le f (n / 10)
  unfold digF
  cases Nat.blt n 10<;>simp<;>omega
theorem decimal_ok{N:Nat}(hN:1000000<N) {n:Nat}(h:n<1000000000):F_cref04_Decimal N (fiB 5 n)=some (digF 20 n):=by
 obtain⟨h1,x,r,h2,h3,h4⟩:=fiB_be 5 n (by have:(256:Nat) ^ 5=1099511627776:=by decide
                                         omega)
 have hlen:=(fi_ok hN h).2
 rw[h2]at h1 hlen⊢
 rw[List.length_cons]at hlen
 have hv:F_cref04_Valid N (x::r)=some true:=by
  cases r with
  |nil=>exact valid_one x
  |cons y r=>
   rw[valid_two hN x y r h3 (by rw[List.length_cons]at hlen;omega),decide_eq_false fun h=>h4 (by simp) ⟨h.1,y,r,rfl,h.2⟩];rfl
 unfold F_cref04_Decimal
 rw[hv,Option.bind_some,Bool.not_true,cond_false,app_ok (by simp;omega) (by simp;omega),Option.bind_some,sign_ok hN h3 (by omega) hv,Option.bind_some,List.nil_append]
 have hi:decide ((if beN (x::r)=0 then(0:Int) else 1)<0)=false:=decide_eq_false (by split<;>omega)
 rw[hi,cond_false,Option.bind_some]
 obtain⟨N',rfl⟩:∃k,N=k+1:=⟨N-1,by omega⟩
 rw[s_cref04_Decimal_l3,show(([]:Bs)==[])=true from rfl,cond_true,dl3_dig hN [] (x::r) (by simp;omega) (by simp) (F_cref04_Decimal_l3 (N' +1) N')]
 obtain⟨g1,g2⟩:=div_be (x::r) 0 (by omega)
 rw[Nat.zero_mul,Nat.zero_add,h1]at g1
 have e1:beN (divB 0 (x::r))=n / 10:=by omega
 have e2:modB 0 (x::r)=n % 10:=by omega
 rw[dl3_ok hN 19 N' _ _ (by omega) (by rw[e1];exact Nat.lt_of_lt_of_le (show n / 10<1000000000 by omega) (by decide)) (by rw[divB_len];simp;omega) (by simp) (by simp),e1,e2,Option.bind_some]
 have hd:(if n / 10=0 then [] else digF 19 (n / 10))++[UInt8.ofNat (48+n % 10)]=digF 20 n:=by
  rw[show digF 20 n=bif Nat.blt n 10 then [UInt8.ofNat (48+n)] else digF 19 (n / 10)++[UInt8.ofNat (48+n % 10)] from rfl]
  by_cases h9:n<10
  ·rw[if_pos (by omega),show Nat.blt n 10=true from Nat.ble_eq_true_of_le h9,cond_true,Nat.mod_eq_of_lt h9];rfl
  ·rw[if_neg (by omega),show Nat.blt n 10=false from Bool.eq_false_iff.2 fun e=>h9 (Nat.le_of_ble_eq_true e),cond_false]
 rw[hd]
 have hl2:(digF 20 n).length≤20:=digF_le 20 n
 rw[cat_ok (by simp;omega),Option.bind_some,List.nil_append]
end Go.Fw
namespace Go.Fw
open Go
theorem rep_succ(s:Bs):∀i:Nat,Lib.repeatL s (i+1)=Lib.repeatL s i++s
 |0=>by simp[Lib.repeatL]
 |i+1=>by
  show s++Lib.repeatL s (i+1)=(s++Lib.repeatL s i)++s
  rw[rep_succ s i,List.append_assoc]
theorem rl0_ok(N:Nat) (R:Node→Int→Option (List Bs)) (c m:Int) (k:Bool) (b:Bs) (ks:List Node) (d:Nat) (hd:d<10000):∀(j n i:Nat),i+j=d→j<n→F_cref29_lines_l0 N R n ((d:Int),Lib.repeatL [32,32] i,(i:Int),c,m,k,b,ks)=some ((d:Int),Lib.repeatL [32,32] d,c,m,k,b,ks)
 |0,n+1,i,h,_=>by
  rw[s_cref29_lines_l0,decide_eq_false (by omega),cond_false,show i=d from by omega]
 |j+1,n+1,i,h,hn=>by
  rw[s_cref29_lines_l0,decide_eq_true (by omega),cond_true,cat_ok (by rw[Lib.repeatL_length];simp;omega),Option.bind_some,←rep_succ,inc_i (by omega)]
  exact rl0_ok N R c m k b ks d hd j n (i+1) (by omega) (by omega)
theorem rl1_ok(N:Nat) (R:Node→Int→Option (List Bs)) (c m:Int) (k:Bool) (b:Bs) (ks:List Node) (d:Nat) (hks:ks.length<1000000) (hd:d<10000)
 (hR:∀x ∈ ks,R x ((d+1:Nat):Int)=some ((preN ((d+1:Nat):Int) x).map E0.line)):
 ∀(j n i:Nat) (acc:List Bs),ks.length-i=j→i≤ks.length→j<n→acc.length+(preL ((d+1:Nat):Int) (ks.drop i)).length<1000000→F_cref29_lines_l1 N R n ((d:Int),(i:Int),c,m,k,b,ks,acc)=some (acc++(preL ((d+1:Nat):Int) (ks.drop i)).map E0.line)
 |0,n+1,i,acc,hj,hi,_,_=>by
  rw[s_cref29_lines_l1,ge_i (by omega),List.drop_eq_nil_of_le (by omega),preL,List.map_nil,List.append_nil]
  rfl
 |j+1,n+1,i,acc,hj,hi,hn,ha=>by
  have hlt:i<ks.length:=by omega
  rw[drop_cons hlt,preL,List.length_append]at ha
  rw[drop_cons hlt,preL,s_cref29_lines_l1,lt_i hlt,cond_true,ix_at hlt,Option.bind_some,node_eta,inc_i (by omega),hR _ (List.getElem_mem hlt),Option.bind_some,app_ok (by rw[List.length_map];omega) (by rw[List.length_map];omega),Option.bind_some,inc_i (by omega),rl1_ok N R c m k b ks d hks hd hR j n (i+1) _ (by omega) (by omega) (by omega) (by rw[List.length_append,List.length_map];omega),List.map_append,List.append_assoc]
theorem mem_encL:∀{ks:List Node}{x:Node},x ∈ ks→(encN x).length≤(encL ks).length
 |y::ks,x,h=>by
  rw[encL,List.length_append]
  rcases List.mem_cons.1 h with rfl|h
  ·omega
  ·have:=mem_encL h
   omega
theorem sum_enc:∀l:List Node,(l.map fun k=>(encN k).length).sum=(encL l).length
 |[]=>rfl
 |x::l=>by rw[List.map_cons,List.sum_cons,sum_enc l,encL,List.length_append]
theorem line_at(d:Nat) (c m:Int) (k:Bool) (b:Bs) (ks:List Node):E0.line ((d:Int),.mk c m k b ks)=Lib.repeatL [32,32] d++hexL [idO c k m]++[32]++digF 20 (b++encL ks).length:=by
 unfold Go.Proofs.NodeFn.line Go.Proofs.NodeFn.size
 rw[List.length_append,←sum_enc]
 rfl
theorem rlines_ok(N:Nat) (hN:1000000<N):∀(j f:Nat) (n:Node) (d:Nat),j≤f→okN j n→(encN n).length<10000→d+j<1000→F_cref29_lines N f n (d:Int)=some ((preN (d:Int) n).map E0.line)
 |0,_,n,_,_,h,_,_=>by cases n;exact False.elim h
 |j+1,f+1,.mk c m k b ks,d,hf,hok,hl,hd=>by
  have ht:=txN_enc _ _ hok
  have K:=kd_of hok (by omega)
  have hp:=preN_tx _ _ (d:Int) hok
  have hb:=bytes_ok N hN (j+1) N _ (by omega) hok (by omega)
  have hbl:(b++encL ks).length≤(encN (.mk c m k b ks)).length:=by rw[encN,tlv_len];omega
  have hlo:=lenB_len (b++encL ks).length (by omega)
  have hv:=header_val N (by omega) (c:=c.toNat) (num:=m.toNat) (n:=(b++encL ks).length) k (by have:=K.hc;omega) (by have:=K.hm;omega) (by omega) (b++encL ks)
  have hh:=hdr_eq hN (a:=encN (.mk c m k b ks)) (by omega)
  rw[show idB c.toNat k m.toNat::(lenB (b++encL ks).length++(b++encL ks))=encN (.mk c m k b ks) from rfl]at hv
  obtain⟨x1,x2,x3,x4,x5,x6,x7,h1,h2,_,_⟩:=hh
  rw[hv]at h1
  rw[←h1]at h2
  rw[preN,List.length_cons]at hp
  have h0:=rl0_ok N (F_cref29_lines N f) c m k b ks d (by omega) d N 0 (by omega) (by omega)
  rw[show(Lib.repeatL [32,32] 0:Bs)=[] from rfl,show((0:Nat):Int)=0 from rfl]at h0
  rw[m_cref29_lines,h0]
  simp only[Option.bind_some]
  rw[hb,Option.bind_some,h2]
  simp only[Option.bind_some]
  have hs:slc (encN (.mk c m k b ks)) 0 1=some [idO c k m]:=slc_pre (k:=1) (by rw[encN,tlv_len];omega)
  rw[hs,Option.bind_some,rhex_ok hN (by simp),Option.bind_some]
  have hx:(hexL [idO c k m]).length=2:=by rw[hexL_length];rfl
  have hrl:(Lib.repeatL [32,32] d:Bs).length=d*2:=Lib.repeatL_length _ _
  have hdl:=digF_le 20 (b++encL ks).length
  rw[cat_ok (by omega),Option.bind_some,cat_ok (by rw[List.length_append];simp;omega),Option.bind_some,(fi_ok hN (n:=(b++encL ks).length) (by omega)).1,Option.bind_some,decimal_ok hN (by omega),Option.bind_some,cat_ok (by rw[List.length_append,List.length_append,List.length_cons,List.length_nil];omega),Option.bind_some]
  have hk:=preL_len
  have e:(((d+1:Nat)):Int)=(d:Int)+1:=by omega
  have h9:=rl1_ok N (F_cref29_lines N f) c m k b ks d K.len (by omega) (fun x hx=>rlines_ok N hN j f x (d+1) (by omega) (K.kid x hx).1 (by
   have:=mem_encL hx
   rw[List.length_append]at hbl
   omega) (by omega)) ks.length N 0 [Lib.repeatL [32,32] d++hexL [idO c k m]++[32]++digF 20 (b++encL ks).length] (by omega) (by omega) (by have:=K.len;omega) (by
   rw[List.drop_zero]
   simp only[List.length_cons,List.length_nil]
   rw[e]
   omega)
  rw[show((0:Nat):Int)=0 from rfl]at h9
  rw[h9,Option.bind_some,List.drop_zero,preN,List.map_cons,line_at,e]
  rfl
end Go.Fw
namespace Go.Fw
open Go
theorem trees_true(k:Nat) (hk:1000000<k) (hk2:k<4611686018427387800) (b:Bs):F_claw29_DumpTrees (k+17) b=some true:=by
 unfold F_claw29_DumpTrees F_awakeD
 simp only[Option.bind_some,Bool.not_true,cond_false]
 by_cases hs:(b.length:Int)>1500
 ·rw[decide_eq_true hs];rfl
 rw[decide_eq_false hs,cond_false]
 rcases parse_eq (N:=k+17) (by omega) (b:=b) (by omega) with⟨n,h1,h2,h3,h4⟩|⟨n,n',e,o,h1,h2,h3⟩
 ·have ht:=txN_enc 16 n h1
  rw[h2]at ht
  have hp:=preN_tx 16 n 0 h1
  have hd:=Tree_ok (N:=k+17) (by omega) (by omega) h1 (by omega)
  rw[h2]at hd
  rw[hd]
  have hL:=rlines_ok (k+17) (by omega) 16 (k+17) n 0 (by omega) h1 (by rw[h2];omega) (by omega)
  rw[show((0:Nat):Int)=0 from rfl]at hL
  unfold F_cref29_Tree F_Lines F_cref29_Lines
  rw[h3,h4,show Nat.blt b.length 10000=true from by simp[Nat.blt_eq];omega,show Nat.blt 1000000 (k+17)=true from by simp[Nat.blt_eq];omega,show Nat.blt (k+17) 4611686018427387904=true from by simp[Nat.blt_eq];omega]
  simp only[Option.bind_some,bne_self_eq_false,cond_false,cond_true]
  rw[node_eta,rtext_ok (k+17) (by omega) 16 (k+17) n (by omega) h1 (by omega),hL]
  simp only[Option.bind_some,cond_true,beq_self_eq_true,Bool.not_true,cond_false,Bool.and_self]
  rw[strings_ok (by omega) (by rw[List.length_map];omega)]
  simp only[Option.bind_some,Bool.not_true,cond_false,bne_self_eq_false]
  have hpt:=PT_ok (N:=k+17) (by omega) (by omega) h1 (by omega)
  rw[h2]at hpt
  rw[hpt]
  simp only[Option.bind_some,beq_self_eq_true,Bool.and_self,cond_true,F_cbase_Bytes]
  rw[count_ok (k+17) (by omega) 16 (k+17) n (by omega) h1 (by omega),Option.bind_some,List.length_map,preN_len 16 0 1 n h1]
  simp
 ·unfold F_dump_Tree F_cref29_Tree F_Lines F_cref29_Lines
  rw[h2,h3,show Nat.blt b.length 10000=true from by simp[Nat.blt_eq];omega,show Nat.blt 1000000 (k+17)=true from by simp[Nat.blt_eq];omega,show Nat.blt (k+17) 4611686018427387904=true from by simp[Nat.blt_eq];omega]
  have he:(e !=0)=true:=by simpa using h1
  simp only[Option.bind_some,he,cond_true,beq_self_eq_true,Bool.not_true,cond_false,Bool.and_self]
  rw[strings_ok (by omega) (by simp)]
  rfl
end Go.Fw
namespace Go.Proofs.Tryz
open Go Go.Fw
theorem law_trees(b:List UInt8) (f:Bool):PureOK prog 5 [.list (flatE byteE b) b.length f] (.bool true):=by
 obtain⟨_,_,_,h⟩:=c_claw29_DumpTrees 1000018
 obtain⟨v,h1,_,h3⟩:=h b true (trees_true 1000001 (by decide) (by decide) b)
 have e:v= .bool true:=by
  have h1:some ((SV.bool true,([]:List DV)))=some (v,[]):=h1
  cases h1;rfl
 subst e
 exact h3 _ rfl _ (by simp only[VRs,VR];exact⟨_,_,rfl,⟨f,rfl,fun h=>(by cases h)⟩,rfl⟩)
end Go.Proofs.Tryz
namespace Go.Proofs.Tryz
open Go Go.Fw Go.RowKit Go.ChangeShapes Go.WideShapes
set_option maxRecDepth 100000
section
variable {H:Type}{enc:TypeId×Value→H}{W:World}{base b0:Nat}{sp:Nat→Bool}{held:Bool}
theorem open_trees{v0:Value}{d0:DataW H}{q0:List MemPlace}(k0:Value.okWide prog W .any b0 27 v0) (h0:DataW.Trod enc prog W base sp held 27 v0 d0 q0):
 ∃b:List UInt8,Reps (snap G0 W) [.list (flatE byteE b) b.length false] [v0]:=by
 obtain⟨n0,e0⟩:=h0
 obtain⟨a,l,c,rfl⟩:=okWide_slice us_cl k0
 obtain⟨b,r0,_,_⟩:=open_tc (P:=prog) (enc:=enc) G0 20 (.sl .byte) 27 (by kernel_rfl) n0 _ _ e0
 exact⟨b,r0⟩
end
theorem globs_n:prog.globals.size=8:=by kernel_rfl
theorem globs_all:((List.range 8).all fun g=>match globOf prog g with|none=>true|some _=>Nat.beq g 6||Nat.beq g 7)=true:=by kernel_rfl
theorem globs{g:Nat}{cs:List D}(h:globOf prog g=some cs):cs=[.anyi]∧(g=6∨g=7):=by
 constructor
 ·unfold globOf globTab at h
  obtain⟨v,_,h⟩:=Option.bind_eq_some_iff.1 h
  split at h
  ·cases h;rfl
  ·split at h
   ·cases h;rfl
   ·cases h
 ·have hg:g<8:=by
   rw[←globs_n]
   unfold globOf at h
   obtain⟨v,hv,_⟩:=Option.bind_eq_some_iff.1 h
   exact(Array.getElem?_eq_some_iff.1 hv).1
  have ha:=List.all_eq_true.1 globs_all g (List.mem_range.2 hg)
  rw[h]at ha
  simp only[Bool.or_eq_true]at ha
  rcases ha with ha|ha
  ·exact .inl (Nat.eq_of_beq_eq_true ha)
  ·exact .inr (Nat.eq_of_beq_eq_true ha)
theorem var_heap{W:World}{n:String}{g:Nat}{l:Array Value}(hg:prog.globalNamed n=some g) (h:W.var? prog n=some l):∃t f,W.heap[g]? =some (.cells l t f):=by
 unfold World.var? at h
 rw[hg]at h
 simp only[Option.bind_some]at h
 split at h
 ·rename_i cs t f hc
  cases h
  exact⟨t,f,hc⟩
 ·cases h
theorem var_cell{W:World}{n:String}{g:Nat}{x:Value}(hg:prog.globalNamed n=some g) (h:W.var? prog n=some #[x]):g<W.heap.size∧W.cell? ⟨g,0,none⟩=some x:=by
 obtain⟨t,f,hc⟩:=var_heap hg h
 refine⟨lt_of_some hc,?_⟩
 unfold World.cell?
 rw[hc]
 rfl
theorem glob_ok{W:World}{t1 t2:TypeId}{x1 x2:Value}(hp:Lib.TabIs prog W "internal/strconv.uint64pow10" .u64 Lib.pow10Tab) (h1:W.var? prog "strconv.ErrSyntax" =some #[.iface t1 x1]) (h2:W.var? prog "strconv.ErrRange" =some #[.iface t2 x2]):GlobOk prog (snap G0 W) W:=by
 refine⟨fun g cs h=> ?_,⟨fun g hg=>var_heap hg hp⟩⟩
 obtain⟨rfl,hg⟩:=globs h
 have key:∃t x,g<W.heap.size∧W.cell? ⟨g,0,none⟩=some (.iface t x):=by
  rcases hg with rfl|rfl
  ·exact⟨t1,x1,var_cell (by kernel_rfl) h1⟩
  ·exact⟨t2,x2,var_cell (by kernel_rfl) h2⟩
 obtain⟨t,x,k1,k2⟩:=key
 refine⟨k1,?_⟩
 simp only[Rep]
 exact⟨g,0,rfl,⟨_,k2,by simp only[Rep];exact⟨t,x,rfl⟩⟩,trivial⟩
end Go.Proofs.Tryz
